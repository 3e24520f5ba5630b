/- RankBelow: the part that this text bears of the proof that the statement answers true for every input. No condition. -/
import Derived.Test.YtcabapilejagkaaProg
import Derived.Below
import Derived.Deep.Draws
import Derived.Deep.AppendLies
import Derived.Maps.AppendAt
import Derived.OwnWalk
import Derived.Laws.BytesArg
import Derived.Laws.MakeOwn
import Derived.Laws.OwnMore
import Derived.Deep.OwnRows
import Derived.Tactics
import Derived.Lib.ConvBytes
import Derived.Laws.Slices
import Derived.WalkKit
import Derived.KernelRfl
import Derived.RowKit3
import Derived.Deep.LoopGhost
import Derived.Deep.QuietTactic
import Derived.BigQuiet
import Derived.WideLaws
import Derived.Deep.DeepCutAuto
import Derived.Deep.CutBlock
import Derived.Deep.RegionHeld3
import Derived.Laws.Rows
import Derived.Lib.AppendStr
import Derived.ArgAppend
import Derived.Laws.IdiomCopy
import Derived.OrdersHeld
import Derived.Laws.BitsLemmas
import Derived.RowKit
import Derived.Shelf.Abstract
import Derived.WalkSpells
import Derived.RangeFuncNested
import Derived.RangeFuncBound
import Derived.RangeFuncCalls
import Derived.RangeFuncLeaves
import Derived.RangeFuncBox
import Derived.OwnWalkIn
import Derived.TacticsInMore
import Derived.LoopNIn
import Derived.LoopIn
import Derived.Deep.Slices
import Derived.ChangeArms
import Derived.Laws.Externs
import Derived.Shelf.Spec.BitsCarry
import Derived.RegionIn
import Derived.Sort.QuietTacIn
import Derived.Deep.RegionWith
import Derived.Laws.BitsAllLaws
import Derived.Shelf.Bits.Mul64
import Derived.ProofKit
import Derived.JoinedOf
import Derived.OpenShut
import Derived.ShutString
import Derived.ChangeOld
import Derived.SizedLaws
import Derived.Test.YtcabapilejagkaaQRankBelowWWords
import Derived.Test.YtcabapilejagkaaQRankBelowWLast
import Derived.Test.YtcabapilejagkaaQRankBelowWTab
import Derived.Test.YtcabapilejagkaaQRankBelowWFour
import Derived.Test.YtcabapilejagkaaQRankBelowWQPut
import Derived.Test.YtcabapilejagkaaQRankBelowWApart
import Derived.Test.YtcabapilejagkaaQRankBelowWArr
import Derived.Test.YtcabapilejagkaaQRankBelowWZeros
import Derived.Test.YtcabapilejagkaaQRankBelowWFoot
import Derived.Test.YtcabapilejagkaaQRankBelowWKept
import Derived.Test.YtcabapilejagkaaQRankBelowWShare
import Derived.Test.YtcabapilejagkaaQRankBelowWN
import Derived.Test.YtcabapilejagkaaQRankBelowWFootNe
import Derived.Test.YtcabapilejagkaaQRankBelowWAt
import Derived.Test.YtcabapilejagkaaQRankBelowWEqStruct
import Derived.Test.YtcabapilejagkaaQRankBelowWRepsOne
import Derived.Test.YtcabapilejagkaaQRankBelowWInv
import Derived.Test.YtcabapilejagkaaQRankBelowWInvWords
import Derived.Test.YtcabapilejagkaaQRankBelowWGuard
import Derived.Test.YtcabapilejagkaaQRankBelowWNEv
import Derived.Test.YtcabapilejagkaaQRankBelowWMore
import Derived.Test.YtcabapilejagkaaRows
import Derived.Test.YtcabapilejagkaaQRankBelow0
namespace Go.Proofs.Ytcabapilejagkaa.P
open Go.RowKit Go.Shelf Go.Proofs.YtcabapilejagkaaW.PrintWords Go.Proofs.YtcabapilejagkaaW.PrintLast Go.Proofs.YtcabapilejagkaaW.PrintMore
set_option linter.unusedVariables false
set_option linter.unusedSimpArgs false
def nan (v : Int) : Bool := decide ((Go.bits .andNot .u64 v 9223372036854775808) > 9218868437227405312)
def fits (zc ct sm : Int) (p n : List Pr) : Bool := (totalRes zc [p, n]).2 && decide ((totalRes zc [p, n]).1 ≤ ct) && (decide (¬ (totalRes zc [p, n]).1 < ct) || nan sm)
def openRes (s z zc ct sm : Int) (l5 l6 : List Sp) (l7 l8 : List Int) : List Pr × List Pr × Int :=
  if s < -4 ∨ s > 8 then ([], [], 21) else if ¬ z < 9218868437227405312 then ([], [], 11)
  else if (sideRes l5 l7).2 ≠ 0 then ([], [], (sideRes l5 l7).2) else if (sideRes l6 l8).2 ≠ 0 then ([], [], (sideRes l6 l8).2)
  else if fits zc ct sm (sideRes l5 l7).1 (sideRes l6 l8).1 = true then ((sideRes l5 l7).1, (sideRes l6 l8).1, 0) else ([], [], 22)
def wfHi (s z zc ct sm : Int) (l5 l6 : List Sp) (l7 l8 : List Int) : Prop := i64 s ∧ u64 z ∧ u64 zc ∧ u64 ct ∧ u64 sm ∧ wfSps l5 ∧ wfSps l6 ∧ i64s l7 ∧ i64s l8 ∧ l7.length < 4398046511104 ∧ l8.length < 4398046511104
instance (s z zc ct sm : Int) (l5 l6 : List Sp) (l7 l8 : List Int) : Decidable (wfHi s z zc ct sm l5 l6 l7 l8) := by unfold wfHi; exact inferInstance
def hist_open.f (s z zc ct sm : Int) (l5 l6 : List Sp) (l7 l8 : List Int) : Option (List Pr × List Pr × Int) := if wfHi s z zc ct sm l5 l6 l7 l8 then some (openRes s z zc ct sm l5 l6 l7 l8) else none
theorem sideRes_ok {l : List Sp} {d : List Int} (hd : i64s d) (h : (sideRes l d).2 = 0) : (∀ p ∈ (sideRes l d).1, 0 ≤ p.f1 ∧ p.f1 ≤ 9223372036854775807) ∧ (sideRes l d).1.length ≤ 4096 := by
  unfold sideRes at h ⊢
  by_cases c1 : spCheck l = 0
  rotate_left
  · rw [if_neg c1] at h; exact absurd h c1
  rw [if_pos c1] at h ⊢
  by_cases c2 : cntN l = d.length
  rotate_left
  · rw [if_neg c2] at h; cases h
  rw [if_pos c2] at h ⊢
  cases hs : sumsFrom 0 d with
  | none => rw [hs] at h; cases h
  | some c =>
    rw [hs] at h
    simp only at h ⊢
    by_cases c3 : c.any (fun x => decide (x < 0)) = true
    · rw [if_pos c3] at h; cases h
    rw [if_neg c3]
    have hi := sumsFrom_i64 d 0 c hs
    refine ⟨fun p hp => ?_, by have := places_len c1; simp; omega⟩
    have : p.f1 ∈ c := by
      obtain ⟨i, hi2, rfl⟩ := List.mem_iff_getElem.1 hp
      simp only [List.getElem_zipWith]
      exact List.getElem_mem _
    have h1 := hi _ this
    refine ⟨?_, h1.2⟩
    by_cases hneg : p.f1 < 0
    · exact absurd (List.any_eq_true.2 ⟨_, this, decide_eq_true hneg⟩) c3
    · omega
theorem rowsAt_two {w : World} {b1 b2 : Nat} {ok1 ok2 : Nat → Prop} {A B : Option Addr} {c d : Nat} {p n : List Pr} (h1 : Kd.R k30 30 w b1 ok1 (.slice A p.length c) p) (h2 : Kd.R k30 30 w b2 ok2 (.slice B n.length d) n) :
    RowsAt (w.alloc (.cells #[.slice A p.length c, .slice B n.length d] 22)) w.heap.size [p, n] := by
  have hb := blk_new w (.cells #[.slice A p.length c, .slice B n.length d] 22)
  intro i hi
  match i, hi with
  | 0, _ => exact ⟨A, c, (blk_cell hb 0).trans rfl, (Kd.R_reads' h1).2.1, Kd.C_below (Kd.R_reads' h1).2.2 (below_alloc (Below.refl _ _) _)⟩
  | 1, _ => exact ⟨B, d, (blk_cell hb 1).trans rfl, (Kd.R_reads' h2).2.1, Kd.C_below (Kd.R_reads' h2).2.2 (below_alloc (Below.refl _ _) _)⟩
theorem R_apart_two {w : World} {b1 b2 m b0 : Nat} {v1 v2 : Value} {p n : List Pr} (h1 : Kd.R k30 30 w b1 (fun k => k < m ∧ b0 ≤ k) v1 p) (h2 : Kd.R k30 30 w b2 (fun k => m ≤ k ∧ b0 ≤ k) v2 n) :
    Kd.R k30 30 w b1 (fun k_ => (b0 ≤ k_) ∧ some k_ ≠ v2.ownBlock) v1 p ∧ Kd.R k30 30 w b2 (fun k_ => (b0 ≤ k_) ∧ some k_ ≠ v1.ownBlock) v2 n := by
  refine ⟨Kd.R_mono h1 (fun k hk => ⟨hk.2, fun e => ?_⟩), Kd.R_mono h2 (fun k hk => ⟨hk.2, fun e => ?_⟩)⟩
  · have := h2.1 k e.symm; omega
  · have := h1.1 k e.symm; omega
set_option maxHeartbeats 8000000 in
set_option maxRecDepth 100000 in
theorem hist_open.calls (s z zc ct sm : Int) (A5 : Option Addr) (c5 : Nat) (l5 : List Sp) (A6 : Option Addr) (c6 : Nat) (l6 : List Sp) (A7 : Option Addr) (c7 : Nat) (l7 : List Int) (A8 : Option Addr) (c8 : Nat) (l8 : List Int) (r1 r2 : List Pr) (r3 : Int) (w : World)
    (hr5 : Kd.C k108 w A5 l5.length l5) (hc5 : l5.length ≤ c5) (hr6 : Kd.C k108 w A6 l6.length l6) (hc6 : l6.length ≤ c6) (hr7 : Kd.C (Kd.int .i64) w A7 l7.length l7) (hc7 : l7.length ≤ c7) (hr8 : Kd.C (Kd.int .i64) w A8 l8.length l8) (hc8 : l8.length ≤ c8)
    (h : hist_open.f s z zc ct sm l5 l6 l7 l8 = some (r1, r2, r3)) :
    Calls Try.prog 93 #[.agg #[.int .i64 s, .int .u64 z, .int .u64 zc, .int .u64 ct, .int .u64 sm, .slice A5 l5.length c5, .slice A6 l6.length c6, .slice A7 l7.length c7, .slice A8 l8.length c8]] w fun e w' => ∃ v0_ v1_ : Value, e = .returned (.tuple #[v0_, v1_, .int .i64 r3]) ∧ Kd.R k30 30 w' w.heap.size (fun k_ => (w.heap.size ≤ k_) ∧ some k_ ≠ (v1_ : Value).ownBlock) v0_ r1 ∧ Kd.R k30 30 w' w.heap.size (fun k_ => (w.heap.size ≤ k_) ∧ some k_ ≠ (v0_ : Value).ownBlock) v1_ r2 ∧ Below w.heap.size w w' := by
  obtain ⟨hw, h2⟩ := of_ite_some h
  clear h
  obtain ⟨hs, hz, hzc, hct, hsm, hw5, hw6, hi7, hi8, hm7, hm8⟩ := hw
  have hu := Try.underlying37
  have HRA := Aside0.mk (And.intro hr5 (And.intro hr6 (And.intro hr7 hr8)))
  have HCA := Aside0.mk (And.intro hc5 (And.intro hc6 (And.intro hc7 hc8)))
  have H := Aside0.mk h2
  have hs5 : hist_side.f l5 l7 = some (sideRes l5 l7) := if_pos ⟨hw5, hi7, hm7⟩
  have hs6 : hist_side.f l6 l8 = some (sideRes l6 l8) := if_pos ⟨hw6, hi8, hm8⟩
  have hok5 := sideRes_ok (l := l5) hi7
  have hok6 := sideRes_ok (l := l6) hi8
  clear h2 hr5 hr6 hr7 hr8 hc5 hc6 hc7 hc8 hw5 hw6 hi7 hi8 hm7 hm8
  unfold openRes at H
  generalize sideRes l5 l7 = q5 at H hs5 hok5
  generalize sideRes l6 l8 = q6 at H hs6 hok6
  obtain ⟨p, e5⟩ := q5
  obtain ⟨n, e6⟩ := q6
  simp only at H hok5 hok6
  have HS5 := Aside0.mk hs5
  have HS6 := Aside0.mk hs6
  have HOK := Aside0.mk (And.intro hok5 hok6)
  have HU := Aside0.mk (And.intro hzc (And.intro hct hsm))
  clear hs5 hs6 hok5 hok6 hzc hct hsm hs hz
  by_cases c1 : s < -4
  · have H := H.out
    rw [if_pos (Or.inl c1)] at H
    injection H with h4 h5; injection h5 with h5 h6
    subst h4; subst h5; subst h6
    have c1b : decide (s < -4) = true := decide_eq_true c1
    clear c1
    go_enter Try.func93, Try.ntmps93
    go_wp2
    go_ret3
    exact ⟨_, _, rfl, Kd.R_nil _ _ _ _ _, Kd.R_nil _ _ _ _ _, below_alloc (Below.refl _ _) _⟩
  by_cases c2 : s > 8
  · have H := H.out
    rw [if_pos (Or.inr c2)] at H
    injection H with h4 h5; injection h5 with h5 h6
    subst h4; subst h5; subst h6
    have c1b : decide (s < -4) = false := decide_eq_false c1
    have c2b : decide (8 < s) = true := decide_eq_true c2
    clear c1 c2
    go_enter Try.func93, Try.ntmps93
    go_wp2
    go_ret3
    exact ⟨_, _, rfl, Kd.R_nil _ _ _ _ _, Kd.R_nil _ _ _ _ _, below_alloc (Below.refl _ _) _⟩
  have c1b : decide (s < -4) = false := decide_eq_false c1
  have c2b : decide (8 < s) = false := decide_eq_false c2
  rw [if_neg (by omega)] at H
  clear c1 c2
  obtain ⟨tz, htz⟩ : ∃ b, b = decide (z < 9218868437227405312) := ⟨_, rfl⟩
  have HTh := Aside0.mk (show hist_Threshold.f z = some tz by rw [htz]; rfl)
  by_cases c3 : z < 9218868437227405312
  rotate_left
  · have H := H.out
    rw [if_pos c3] at H
    injection H with h4 h5; injection h5 with h5 h6
    subst h4; subst h5; subst h6
    rw [decide_eq_false c3] at htz
    subst htz
    clear c3
    go_enter Try.func93, Try.ntmps93
    go_wp2_with (first | (go_at_call 88; (with_reducible refine (hist_Threshold.calls z _ _ HTh.out).mono ?_); rintro e w1 ⟨rfl, hb⟩; have HB1 := Aside0.mk (below_then (below_alloc (Below.refl w.heap.size w) (.cells #[.int .i64 s, .int .u64 z, .int .u64 zc, .int .u64 ct, .int .u64 sm, .slice A5 l5.length c5, .slice A6 l6.length c6, .slice A7 l7.length c7, .slice A8 l8.length c8] 37)) (by simp) hb.below); have HX1 := Aside0.mk (blk_below (blk_new w (.cells #[.int .i64 s, .int .u64 z, .int .u64 zc, .int .u64 ct, .int .u64 sm, .slice A5 l5.length c5, .slice A6 l6.length c6, .slice A7 l7.length c7, .slice A8 l8.length c8] 37)) hb.below); have hf := fun i => blk_cell HX1.out i; clear hb))
    go_ret3
    exact ⟨_, _, rfl, Kd.R_nil _ _ _ _ _, Kd.R_nil _ _ _ _ _, HB1.out⟩
  rw [decide_eq_true c3] at htz
  subst htz
  rw [if_neg (by omega)] at H
  clear c3
  by_cases c4 : e5 = 0
  rotate_left
  · have H := H.out
    rw [if_pos c4] at H
    injection H with h4 h5; injection h5 with h5 h6
    subst h4; subst h5; subst h6
    have c4b : (e5 == 0) = false := beq_eq_false_iff_ne.2 c4
    have c4c : (e5 != 0) = true := bne_iff_ne.2 c4
    clear c4
    go_enter Try.func93, Try.ntmps93
    go_wp2_with (first | (go_at_call 88; (with_reducible refine (hist_Threshold.calls z _ _ HTh.out).mono ?_); rintro e w1 ⟨rfl, hb⟩; have HB1 := Aside0.mk (below_then (below_alloc (Below.refl w.heap.size w) (.cells #[.int .i64 s, .int .u64 z, .int .u64 zc, .int .u64 ct, .int .u64 sm, .slice A5 l5.length c5, .slice A6 l6.length c6, .slice A7 l7.length c7, .slice A8 l8.length c8] 37)) (by simp) hb.below); have HX1 := Aside0.mk (blk_below (blk_new w (.cells #[.int .i64 s, .int .u64 z, .int .u64 zc, .int .u64 ct, .int .u64 sm, .slice A5 l5.length c5, .slice A6 l6.length c6, .slice A7 l7.length c7, .slice A8 l8.length c8] 37)) hb.below); have hf := fun i => blk_cell HX1.out i; clear hb) | (go_at_call 135; (with_reducible refine (hist_side.calls _ _ l5 _ _ l7 p _ _ (Kd.C_below HRA.out.1 HB1.out) HCA.out.1 (Kd.C_below HRA.out.2.2.1 HB1.out) HCA.out.2.2.1 HS5.out).mono ?_); rintro e w2 ⟨v2, rfl, ho2, hb⟩; have HB2 := Aside0.mk (below_then HB1.out HB1.out.size hb); have HX2 := Aside0.mk (blk_below HX1.out hb); have hf2 := fun i => blk_cell HX2.out i; have HO2 := Aside0.mk (Kd.R_mono (ok' := fun k => k < w2.heap.size ∧ w.heap.size ≤ k) (Kd.R_lower (Kd.R_bound ho2) HB1.out.size) (fun k hk => ⟨hk.2.2.1, Nat.le_trans HB1.out.size hk.2.1⟩)); obtain ⟨B2, d2, eo2⟩ := Kd.R_slice ho2; subst eo2; clear ho2 hb))
    go_ret3
    exact ⟨_, _, rfl, Kd.R_nil _ _ _ _ _, Kd.R_nil _ _ _ _ _, HB2.out⟩
  subst c4
  rw [if_neg (by simp)] at H
  by_cases c5' : e6 = 0
  rotate_left
  · have H := H.out
    rw [if_pos c5'] at H
    injection H with h4 h5; injection h5 with h5 h6
    subst h4; subst h5; subst h6
    have c4b : (e6 == 0) = false := beq_eq_false_iff_ne.2 c5'
    have c4c : (e6 != 0) = true := bne_iff_ne.2 c5'
    clear c5'
    go_enter Try.func93, Try.ntmps93
    go_wp2_with (first | (go_at_call 88; (with_reducible refine (hist_Threshold.calls z _ _ HTh.out).mono ?_); rintro e w1 ⟨rfl, hb⟩; have HB1 := Aside0.mk (below_then (below_alloc (Below.refl w.heap.size w) (.cells #[.int .i64 s, .int .u64 z, .int .u64 zc, .int .u64 ct, .int .u64 sm, .slice A5 l5.length c5, .slice A6 l6.length c6, .slice A7 l7.length c7, .slice A8 l8.length c8] 37)) (by simp) hb.below); have HX1 := Aside0.mk (blk_below (blk_new w (.cells #[.int .i64 s, .int .u64 z, .int .u64 zc, .int .u64 ct, .int .u64 sm, .slice A5 l5.length c5, .slice A6 l6.length c6, .slice A7 l7.length c7, .slice A8 l8.length c8] 37)) hb.below); have hf := fun i => blk_cell HX1.out i; clear hb) | (go_at_call 135; (with_reducible refine (hist_side.calls _ _ l5 _ _ l7 p _ _ (Kd.C_below HRA.out.1 HB1.out) HCA.out.1 (Kd.C_below HRA.out.2.2.1 HB1.out) HCA.out.2.2.1 HS5.out).mono ?_); rintro e w2 ⟨v2, rfl, ho2, hb⟩; have HB2 := Aside0.mk (below_then HB1.out HB1.out.size hb); have HX2 := Aside0.mk (blk_below HX1.out hb); have hf2 := fun i => blk_cell HX2.out i; have HO2 := Aside0.mk (Kd.R_mono (ok' := fun k => k < w2.heap.size ∧ w.heap.size ≤ k) (Kd.R_lower (Kd.R_bound ho2) HB1.out.size) (fun k hk => ⟨hk.2.2.1, Nat.le_trans HB1.out.size hk.2.1⟩)); obtain ⟨B2, d2, eo2⟩ := Kd.R_slice ho2; subst eo2; clear ho2 hb) | (go_at_call 135; (with_reducible refine (hist_side.calls _ _ l6 _ _ l8 n _ _ (Kd.C_below HRA.out.2.1 HB2.out) HCA.out.2.1 (Kd.C_below HRA.out.2.2.2 HB2.out) HCA.out.2.2.2 HS6.out).mono ?_); rintro e w3 ⟨v3, rfl, ho3, hb⟩; have HB3 := Aside0.mk (below_then HB2.out HB2.out.size hb); have HX3 := Aside0.mk (blk_below HX2.out hb); have hf3 := fun i => blk_cell HX3.out i; have HO3 := Aside0.mk (And.intro (Kd.R_below HO2.out hb) (Kd.R_mono (ok' := fun k => w2.heap.size ≤ k ∧ w.heap.size ≤ k) (Kd.R_lower (Kd.R_bound ho3) HB2.out.size) (fun k hk => ⟨hk.2.1, Nat.le_trans HB2.out.size hk.2.1⟩))); obtain ⟨B3, d3, eo3⟩ := Kd.R_slice ho3; subst eo3; clear ho3 hb))
    go_ret3
    exact ⟨_, _, rfl, Kd.R_nil _ _ _ _ _, Kd.R_nil _ _ _ _ _, HB3.out⟩
  subst c5'
  rw [if_neg (by simp)] at H
  have HV := Aside0.mk (show u64 zc ∧ (∀ r ∈ [p, n], ∀ q ∈ r, 0 ≤ q.f1 ∧ q.f1 ≤ 9223372036854775807) ∧ (∀ r ∈ [p, n], r.length ≤ 4611686018427387904) by
    have h1 := HOK.out.1 rfl
    have h2 := HOK.out.2 rfl
    refine ⟨HU.out.1, fun r hr => ?_, fun r hr => ?_⟩
    · simp at hr; rcases hr with rfl | rfl
      · exact h1.1
      · exact h2.1
    · simp at hr; rcases hr with rfl | rfl <;> omega)
  obtain ⟨⟨tt, tb⟩, htt⟩ : ∃ t, t = totalRes zc [p, n] := ⟨_, rfl⟩
  have HTot := Aside0.mk htt.symm
  obtain ⟨bn, hbn⟩ : ∃ b, b = nan sm := ⟨_, rfl⟩
  have HNa := Aside0.mk (show hist_NaN.f sm = some bn by rw [hbn]; rfl)
  unfold fits at H
  rw [← htt, ← hbn] at H
  simp only at H
  clear htt hbn
  cases tb with
  | false =>
    have H := H.out
    rw [if_neg (by simp)] at H
    injection H with h4 h5; injection h5 with h5 h6
    subst h4; subst h5; subst h6
    go_enter Try.func93, Try.ntmps93
    go_wp2_with (first | (go_at_call 88; (with_reducible refine (hist_Threshold.calls z _ _ HTh.out).mono ?_); rintro e w1 ⟨rfl, hb⟩; have HB1 := Aside0.mk (below_then (below_alloc (Below.refl w.heap.size w) (.cells #[.int .i64 s, .int .u64 z, .int .u64 zc, .int .u64 ct, .int .u64 sm, .slice A5 l5.length c5, .slice A6 l6.length c6, .slice A7 l7.length c7, .slice A8 l8.length c8] 37)) (by simp) hb.below); have HX1 := Aside0.mk (blk_below (blk_new w (.cells #[.int .i64 s, .int .u64 z, .int .u64 zc, .int .u64 ct, .int .u64 sm, .slice A5 l5.length c5, .slice A6 l6.length c6, .slice A7 l7.length c7, .slice A8 l8.length c8] 37)) hb.below); have hf := fun i => blk_cell HX1.out i; clear hb) | (go_at_call 135; (with_reducible refine (hist_side.calls _ _ l5 _ _ l7 p _ _ (Kd.C_below HRA.out.1 HB1.out) HCA.out.1 (Kd.C_below HRA.out.2.2.1 HB1.out) HCA.out.2.2.1 HS5.out).mono ?_); rintro e w2 ⟨v2, rfl, ho2, hb⟩; have HB2 := Aside0.mk (below_then HB1.out HB1.out.size hb); have HX2 := Aside0.mk (blk_below HX1.out hb); have hf2 := fun i => blk_cell HX2.out i; have HO2 := Aside0.mk (Kd.R_mono (ok' := fun k => k < w2.heap.size ∧ w.heap.size ≤ k) (Kd.R_lower (Kd.R_bound ho2) HB1.out.size) (fun k hk => ⟨hk.2.2.1, Nat.le_trans HB1.out.size hk.2.1⟩)); obtain ⟨B2, d2, eo2⟩ := Kd.R_slice ho2; subst eo2; clear ho2 hb) | (go_at_call 135; (with_reducible refine (hist_side.calls _ _ l6 _ _ l8 n _ _ (Kd.C_below HRA.out.2.1 HB2.out) HCA.out.2.1 (Kd.C_below HRA.out.2.2.2 HB2.out) HCA.out.2.2.2 HS6.out).mono ?_); rintro e w3 ⟨v3, rfl, ho3, hb⟩; have HB3 := Aside0.mk (below_then HB2.out HB2.out.size hb); have HX3 := Aside0.mk (blk_below HX2.out hb); have hf3 := fun i => blk_cell HX3.out i; have HO3 := Aside0.mk (And.intro (Kd.R_below HO2.out hb) (Kd.R_mono (ok' := fun k => w2.heap.size ≤ k ∧ w.heap.size ≤ k) (Kd.R_lower (Kd.R_bound ho3) HB2.out.size) (fun k hk => ⟨hk.2.1, Nat.le_trans HB2.out.size hk.2.1⟩))); obtain ⟨B3, d3, eo3⟩ := Kd.R_slice ho3; subst eo3; clear ho3 hb) | (go_at_call 136; refine (hist_total s z zc ct sm _ _ _ _ _ _ _ _ _ _ _ _ w3.heap.size _ [p, n] _ HV.out.1 HV.out.2.1 HV.out.2.2 (by simp) (by simp) (rowsAt_two HO3.out.1 HO3.out.2)).mono ?_; rintro e w4 ⟨rfl, hb⟩; rw [HTot.out]; have HB4 := Aside0.mk (below_then HB3.out HB3.out.size (below_then (below_alloc (Below.refl _ _) _) (by simp) hb)); have HX4 := Aside0.mk (blk_below HX3.out (below_then (below_alloc (Below.refl _ _) _) (by simp) hb)); have hf4 := fun i => blk_cell HX4.out i; have HO4 := Aside0.mk (And.intro (Kd.R_below HO3.out.1 (below_then (below_alloc (Below.refl _ _) _) (by simp) hb)) (Kd.R_below HO3.out.2 (below_then (below_alloc (Below.refl _ _) _) (by simp) hb))); clear hb))
    go_ret3
    exact ⟨_, _, rfl, Kd.R_nil _ _ _ _ _, Kd.R_nil _ _ _ _ _, HB4.out⟩
  | true =>
    by_cases d1 : ct < tt
    · have d1b : decide (ct < tt) = true := decide_eq_true d1
      have H := H.out
      rw [if_neg (by simp; omega)] at H
      injection H with h4 h5; injection h5 with h5 h6
      subst h4; subst h5; subst h6
      clear d1
      go_enter Try.func93, Try.ntmps93
      go_wp2_with (first | (go_at_call 88; (with_reducible refine (hist_Threshold.calls z _ _ HTh.out).mono ?_); rintro e w1 ⟨rfl, hb⟩; have HB1 := Aside0.mk (below_then (below_alloc (Below.refl w.heap.size w) (.cells #[.int .i64 s, .int .u64 z, .int .u64 zc, .int .u64 ct, .int .u64 sm, .slice A5 l5.length c5, .slice A6 l6.length c6, .slice A7 l7.length c7, .slice A8 l8.length c8] 37)) (by simp) hb.below); have HX1 := Aside0.mk (blk_below (blk_new w (.cells #[.int .i64 s, .int .u64 z, .int .u64 zc, .int .u64 ct, .int .u64 sm, .slice A5 l5.length c5, .slice A6 l6.length c6, .slice A7 l7.length c7, .slice A8 l8.length c8] 37)) hb.below); have hf := fun i => blk_cell HX1.out i; clear hb) | (go_at_call 135; (with_reducible refine (hist_side.calls _ _ l5 _ _ l7 p _ _ (Kd.C_below HRA.out.1 HB1.out) HCA.out.1 (Kd.C_below HRA.out.2.2.1 HB1.out) HCA.out.2.2.1 HS5.out).mono ?_); rintro e w2 ⟨v2, rfl, ho2, hb⟩; have HB2 := Aside0.mk (below_then HB1.out HB1.out.size hb); have HX2 := Aside0.mk (blk_below HX1.out hb); have hf2 := fun i => blk_cell HX2.out i; have HO2 := Aside0.mk (Kd.R_mono (ok' := fun k => k < w2.heap.size ∧ w.heap.size ≤ k) (Kd.R_lower (Kd.R_bound ho2) HB1.out.size) (fun k hk => ⟨hk.2.2.1, Nat.le_trans HB1.out.size hk.2.1⟩)); obtain ⟨B2, d2, eo2⟩ := Kd.R_slice ho2; subst eo2; clear ho2 hb) | (go_at_call 135; (with_reducible refine (hist_side.calls _ _ l6 _ _ l8 n _ _ (Kd.C_below HRA.out.2.1 HB2.out) HCA.out.2.1 (Kd.C_below HRA.out.2.2.2 HB2.out) HCA.out.2.2.2 HS6.out).mono ?_); rintro e w3 ⟨v3, rfl, ho3, hb⟩; have HB3 := Aside0.mk (below_then HB2.out HB2.out.size hb); have HX3 := Aside0.mk (blk_below HX2.out hb); have hf3 := fun i => blk_cell HX3.out i; have HO3 := Aside0.mk (And.intro (Kd.R_below HO2.out hb) (Kd.R_mono (ok' := fun k => w2.heap.size ≤ k ∧ w.heap.size ≤ k) (Kd.R_lower (Kd.R_bound ho3) HB2.out.size) (fun k hk => ⟨hk.2.1, Nat.le_trans HB2.out.size hk.2.1⟩))); obtain ⟨B3, d3, eo3⟩ := Kd.R_slice ho3; subst eo3; clear ho3 hb) | (go_at_call 136; refine (hist_total s z zc ct sm _ _ _ _ _ _ _ _ _ _ _ _ w3.heap.size _ [p, n] _ HV.out.1 HV.out.2.1 HV.out.2.2 (by simp) (by simp) (rowsAt_two HO3.out.1 HO3.out.2)).mono ?_; rintro e w4 ⟨rfl, hb⟩; rw [HTot.out]; have HB4 := Aside0.mk (below_then HB3.out HB3.out.size (below_then (below_alloc (Below.refl _ _) _) (by simp) hb)); have HX4 := Aside0.mk (blk_below HX3.out (below_then (below_alloc (Below.refl _ _) _) (by simp) hb)); have hf4 := fun i => blk_cell HX4.out i; have HO4 := Aside0.mk (And.intro (Kd.R_below HO3.out.1 (below_then (below_alloc (Below.refl _ _) _) (by simp) hb)) (Kd.R_below HO3.out.2 (below_then (below_alloc (Below.refl _ _) _) (by simp) hb))); clear hb))
      go_ret3
      exact ⟨_, _, rfl, Kd.R_nil _ _ _ _ _, Kd.R_nil _ _ _ _ _, HB4.out⟩
    have d1b : decide (ct < tt) = false := decide_eq_false d1
    by_cases d2 : tt < ct
    · have d2b : decide (tt < ct) = true := decide_eq_true d2
      cases bn with
      | false =>
        have H := H.out
        rw [if_neg (by simp; omega)] at H
        injection H with h4 h5; injection h5 with h5 h6
        subst h4; subst h5; subst h6
        clear d1 d2
        go_enter Try.func93, Try.ntmps93
        go_wp2_with (first | (go_at_call 88; (with_reducible refine (hist_Threshold.calls z _ _ HTh.out).mono ?_); rintro e w1 ⟨rfl, hb⟩; have HB1 := Aside0.mk (below_then (below_alloc (Below.refl w.heap.size w) (.cells #[.int .i64 s, .int .u64 z, .int .u64 zc, .int .u64 ct, .int .u64 sm, .slice A5 l5.length c5, .slice A6 l6.length c6, .slice A7 l7.length c7, .slice A8 l8.length c8] 37)) (by simp) hb.below); have HX1 := Aside0.mk (blk_below (blk_new w (.cells #[.int .i64 s, .int .u64 z, .int .u64 zc, .int .u64 ct, .int .u64 sm, .slice A5 l5.length c5, .slice A6 l6.length c6, .slice A7 l7.length c7, .slice A8 l8.length c8] 37)) hb.below); have hf := fun i => blk_cell HX1.out i; clear hb) | (go_at_call 135; (with_reducible refine (hist_side.calls _ _ l5 _ _ l7 p _ _ (Kd.C_below HRA.out.1 HB1.out) HCA.out.1 (Kd.C_below HRA.out.2.2.1 HB1.out) HCA.out.2.2.1 HS5.out).mono ?_); rintro e w2 ⟨v2, rfl, ho2, hb⟩; have HB2 := Aside0.mk (below_then HB1.out HB1.out.size hb); have HX2 := Aside0.mk (blk_below HX1.out hb); have hf2 := fun i => blk_cell HX2.out i; have HO2 := Aside0.mk (Kd.R_mono (ok' := fun k => k < w2.heap.size ∧ w.heap.size ≤ k) (Kd.R_lower (Kd.R_bound ho2) HB1.out.size) (fun k hk => ⟨hk.2.2.1, Nat.le_trans HB1.out.size hk.2.1⟩)); obtain ⟨B2, d2, eo2⟩ := Kd.R_slice ho2; subst eo2; clear ho2 hb) | (go_at_call 135; (with_reducible refine (hist_side.calls _ _ l6 _ _ l8 n _ _ (Kd.C_below HRA.out.2.1 HB2.out) HCA.out.2.1 (Kd.C_below HRA.out.2.2.2 HB2.out) HCA.out.2.2.2 HS6.out).mono ?_); rintro e w3 ⟨v3, rfl, ho3, hb⟩; have HB3 := Aside0.mk (below_then HB2.out HB2.out.size hb); have HX3 := Aside0.mk (blk_below HX2.out hb); have hf3 := fun i => blk_cell HX3.out i; have HO3 := Aside0.mk (And.intro (Kd.R_below HO2.out hb) (Kd.R_mono (ok' := fun k => w2.heap.size ≤ k ∧ w.heap.size ≤ k) (Kd.R_lower (Kd.R_bound ho3) HB2.out.size) (fun k hk => ⟨hk.2.1, Nat.le_trans HB2.out.size hk.2.1⟩))); obtain ⟨B3, d3, eo3⟩ := Kd.R_slice ho3; subst eo3; clear ho3 hb) | (go_at_call 136; refine (hist_total s z zc ct sm _ _ _ _ _ _ _ _ _ _ _ _ w3.heap.size _ [p, n] _ HV.out.1 HV.out.2.1 HV.out.2.2 (by simp) (by simp) (rowsAt_two HO3.out.1 HO3.out.2)).mono ?_; rintro e w4 ⟨rfl, hb⟩; rw [HTot.out]; have HB4 := Aside0.mk (below_then HB3.out HB3.out.size (below_then (below_alloc (Below.refl _ _) _) (by simp) hb)); have HX4 := Aside0.mk (blk_below HX3.out (below_then (below_alloc (Below.refl _ _) _) (by simp) hb)); have hf4 := fun i => blk_cell HX4.out i; have HO4 := Aside0.mk (And.intro (Kd.R_below HO3.out.1 (below_then (below_alloc (Below.refl _ _) _) (by simp) hb)) (Kd.R_below HO3.out.2 (below_then (below_alloc (Below.refl _ _) _) (by simp) hb))); clear hb) | (go_at_call 87; (with_reducible refine (hist_NaN.calls sm _ _ HNa.out).mono ?_); rintro e w5 ⟨rfl, hb⟩; have HB5 := Aside0.mk (below_then HB4.out HB4.out.size hb.below); have HX5 := Aside0.mk (blk_below HX4.out hb.below); have hf5 := fun i => blk_cell HX5.out i; have HO5 := Aside0.mk (And.intro (Kd.R_below HO4.out.1 hb.below) (Kd.R_below HO4.out.2 hb.below)); clear hb))
        go_ret3
        exact ⟨_, _, rfl, Kd.R_nil _ _ _ _ _, Kd.R_nil _ _ _ _ _, HB5.out⟩
      | true =>
        have H := H.out
        rw [if_pos (by simp; omega)] at H
        injection H with h4 h5; injection h5 with h5 h6
        subst h4; subst h5; subst h6
        clear d1 d2
        go_enter Try.func93, Try.ntmps93
        go_wp2_with (first | (go_at_call 88; (with_reducible refine (hist_Threshold.calls z _ _ HTh.out).mono ?_); rintro e w1 ⟨rfl, hb⟩; have HB1 := Aside0.mk (below_then (below_alloc (Below.refl w.heap.size w) (.cells #[.int .i64 s, .int .u64 z, .int .u64 zc, .int .u64 ct, .int .u64 sm, .slice A5 l5.length c5, .slice A6 l6.length c6, .slice A7 l7.length c7, .slice A8 l8.length c8] 37)) (by simp) hb.below); have HX1 := Aside0.mk (blk_below (blk_new w (.cells #[.int .i64 s, .int .u64 z, .int .u64 zc, .int .u64 ct, .int .u64 sm, .slice A5 l5.length c5, .slice A6 l6.length c6, .slice A7 l7.length c7, .slice A8 l8.length c8] 37)) hb.below); have hf := fun i => blk_cell HX1.out i; clear hb) | (go_at_call 135; (with_reducible refine (hist_side.calls _ _ l5 _ _ l7 p _ _ (Kd.C_below HRA.out.1 HB1.out) HCA.out.1 (Kd.C_below HRA.out.2.2.1 HB1.out) HCA.out.2.2.1 HS5.out).mono ?_); rintro e w2 ⟨v2, rfl, ho2, hb⟩; have HB2 := Aside0.mk (below_then HB1.out HB1.out.size hb); have HX2 := Aside0.mk (blk_below HX1.out hb); have hf2 := fun i => blk_cell HX2.out i; have HO2 := Aside0.mk (Kd.R_mono (ok' := fun k => k < w2.heap.size ∧ w.heap.size ≤ k) (Kd.R_lower (Kd.R_bound ho2) HB1.out.size) (fun k hk => ⟨hk.2.2.1, Nat.le_trans HB1.out.size hk.2.1⟩)); obtain ⟨B2, d2, eo2⟩ := Kd.R_slice ho2; subst eo2; clear ho2 hb) | (go_at_call 135; (with_reducible refine (hist_side.calls _ _ l6 _ _ l8 n _ _ (Kd.C_below HRA.out.2.1 HB2.out) HCA.out.2.1 (Kd.C_below HRA.out.2.2.2 HB2.out) HCA.out.2.2.2 HS6.out).mono ?_); rintro e w3 ⟨v3, rfl, ho3, hb⟩; have HB3 := Aside0.mk (below_then HB2.out HB2.out.size hb); have HX3 := Aside0.mk (blk_below HX2.out hb); have hf3 := fun i => blk_cell HX3.out i; have HO3 := Aside0.mk (And.intro (Kd.R_below HO2.out hb) (Kd.R_mono (ok' := fun k => w2.heap.size ≤ k ∧ w.heap.size ≤ k) (Kd.R_lower (Kd.R_bound ho3) HB2.out.size) (fun k hk => ⟨hk.2.1, Nat.le_trans HB2.out.size hk.2.1⟩))); obtain ⟨B3, d3, eo3⟩ := Kd.R_slice ho3; subst eo3; clear ho3 hb) | (go_at_call 136; refine (hist_total s z zc ct sm _ _ _ _ _ _ _ _ _ _ _ _ w3.heap.size _ [p, n] _ HV.out.1 HV.out.2.1 HV.out.2.2 (by simp) (by simp) (rowsAt_two HO3.out.1 HO3.out.2)).mono ?_; rintro e w4 ⟨rfl, hb⟩; rw [HTot.out]; have HB4 := Aside0.mk (below_then HB3.out HB3.out.size (below_then (below_alloc (Below.refl _ _) _) (by simp) hb)); have HX4 := Aside0.mk (blk_below HX3.out (below_then (below_alloc (Below.refl _ _) _) (by simp) hb)); have hf4 := fun i => blk_cell HX4.out i; have HO4 := Aside0.mk (And.intro (Kd.R_below HO3.out.1 (below_then (below_alloc (Below.refl _ _) _) (by simp) hb)) (Kd.R_below HO3.out.2 (below_then (below_alloc (Below.refl _ _) _) (by simp) hb))); clear hb) | (go_at_call 87; (with_reducible refine (hist_NaN.calls sm _ _ HNa.out).mono ?_); rintro e w5 ⟨rfl, hb⟩; have HB5 := Aside0.mk (below_then HB4.out HB4.out.size hb.below); have HX5 := Aside0.mk (blk_below HX4.out hb.below); have hf5 := fun i => blk_cell HX5.out i; have HO5 := Aside0.mk (And.intro (Kd.R_below HO4.out.1 hb.below) (Kd.R_below HO4.out.2 hb.below)); clear hb))
        go_ret3
        exact ⟨_, _, rfl, (R_apart_two HO5.out.1 HO5.out.2).1, (R_apart_two HO5.out.1 HO5.out.2).2, HB5.out⟩
    · have d2b : decide (tt < ct) = false := decide_eq_false d2
      have H := H.out
      rw [if_pos (by simp; omega)] at H
      injection H with h4 h5; injection h5 with h5 h6
      subst h4; subst h5; subst h6
      clear d1 d2
      go_enter Try.func93, Try.ntmps93
      go_wp2_with (first | (go_at_call 88; (with_reducible refine (hist_Threshold.calls z _ _ HTh.out).mono ?_); rintro e w1 ⟨rfl, hb⟩; have HB1 := Aside0.mk (below_then (below_alloc (Below.refl w.heap.size w) (.cells #[.int .i64 s, .int .u64 z, .int .u64 zc, .int .u64 ct, .int .u64 sm, .slice A5 l5.length c5, .slice A6 l6.length c6, .slice A7 l7.length c7, .slice A8 l8.length c8] 37)) (by simp) hb.below); have HX1 := Aside0.mk (blk_below (blk_new w (.cells #[.int .i64 s, .int .u64 z, .int .u64 zc, .int .u64 ct, .int .u64 sm, .slice A5 l5.length c5, .slice A6 l6.length c6, .slice A7 l7.length c7, .slice A8 l8.length c8] 37)) hb.below); have hf := fun i => blk_cell HX1.out i; clear hb) | (go_at_call 135; (with_reducible refine (hist_side.calls _ _ l5 _ _ l7 p _ _ (Kd.C_below HRA.out.1 HB1.out) HCA.out.1 (Kd.C_below HRA.out.2.2.1 HB1.out) HCA.out.2.2.1 HS5.out).mono ?_); rintro e w2 ⟨v2, rfl, ho2, hb⟩; have HB2 := Aside0.mk (below_then HB1.out HB1.out.size hb); have HX2 := Aside0.mk (blk_below HX1.out hb); have hf2 := fun i => blk_cell HX2.out i; have HO2 := Aside0.mk (Kd.R_mono (ok' := fun k => k < w2.heap.size ∧ w.heap.size ≤ k) (Kd.R_lower (Kd.R_bound ho2) HB1.out.size) (fun k hk => ⟨hk.2.2.1, Nat.le_trans HB1.out.size hk.2.1⟩)); obtain ⟨B2, d2, eo2⟩ := Kd.R_slice ho2; subst eo2; clear ho2 hb) | (go_at_call 135; (with_reducible refine (hist_side.calls _ _ l6 _ _ l8 n _ _ (Kd.C_below HRA.out.2.1 HB2.out) HCA.out.2.1 (Kd.C_below HRA.out.2.2.2 HB2.out) HCA.out.2.2.2 HS6.out).mono ?_); rintro e w3 ⟨v3, rfl, ho3, hb⟩; have HB3 := Aside0.mk (below_then HB2.out HB2.out.size hb); have HX3 := Aside0.mk (blk_below HX2.out hb); have hf3 := fun i => blk_cell HX3.out i; have HO3 := Aside0.mk (And.intro (Kd.R_below HO2.out hb) (Kd.R_mono (ok' := fun k => w2.heap.size ≤ k ∧ w.heap.size ≤ k) (Kd.R_lower (Kd.R_bound ho3) HB2.out.size) (fun k hk => ⟨hk.2.1, Nat.le_trans HB2.out.size hk.2.1⟩))); obtain ⟨B3, d3, eo3⟩ := Kd.R_slice ho3; subst eo3; clear ho3 hb) | (go_at_call 136; refine (hist_total s z zc ct sm _ _ _ _ _ _ _ _ _ _ _ _ w3.heap.size _ [p, n] _ HV.out.1 HV.out.2.1 HV.out.2.2 (by simp) (by simp) (rowsAt_two HO3.out.1 HO3.out.2)).mono ?_; rintro e w4 ⟨rfl, hb⟩; rw [HTot.out]; have HB4 := Aside0.mk (below_then HB3.out HB3.out.size (below_then (below_alloc (Below.refl _ _) _) (by simp) hb)); have HX4 := Aside0.mk (blk_below HX3.out (below_then (below_alloc (Below.refl _ _) _) (by simp) hb)); have hf4 := fun i => blk_cell HX4.out i; have HO4 := Aside0.mk (And.intro (Kd.R_below HO3.out.1 (below_then (below_alloc (Below.refl _ _) _) (by simp) hb)) (Kd.R_below HO3.out.2 (below_then (below_alloc (Below.refl _ _) _) (by simp) hb))); clear hb))
      go_ret3
      exact ⟨_, _, rfl, (R_apart_two HO4.out.1 HO4.out.2).1, (R_apart_two HO4.out.1 HO4.out.2).2, HB4.out⟩
end Go.Proofs.Ytcabapilejagkaa.P
namespace Go.Proofs.Ytcabapilejagkaa.P
set_option linter.unusedVariables false
set_option linter.unusedSimpArgs false
section
variable {α : Type} (key val : α → Int)
def Ups (l : List α) : Prop := l.Pairwise (fun a b => key a < key b)
variable {key val}
theorem Ups.nil : Ups key ([] : List α) := List.Pairwise.nil
theorem Ups.tail {x : α} {l : List α} (h : Ups key (x :: l)) : Ups key l := (List.pairwise_cons.1 h).2
theorem Ups.head {x : α} {l : List α} (h : Ups key (x :: l)) : ∀ y ∈ l, key x < key y := (List.pairwise_cons.1 h).1
theorem Ups.filter {l : List α} (p : α → Bool) (h : Ups key l) : Ups key (l.filter p) := List.Pairwise.filter p h
theorem Ups.inj {l : List α} (hu : Ups key l) {x y : α} (hx : x ∈ l) (hy : y ∈ l) (h : key x = key y) : x = y := by
  induction l with
  | nil => cases hx
  | cons z l ih =>
    rcases List.mem_cons.1 hx with e1 | hx1
    · rcases List.mem_cons.1 hy with e2 | hy1
      · rw [e1, e2]
      · have := hu.head y hy1; rw [e1] at h; omega
    · rcases List.mem_cons.1 hy with e2 | hy1
      · have := hu.head x hx1; rw [e2] at h; omega
      · exact ih hu.tail hx1 hy1
end
section
variable {β α ρ : Type}
end
section
variable {α : Type} {key val : α → Int}
end
section
variable {α : Type}
variable {key : α → Int} {join : α → α → α}
end
end Go.Proofs.Ytcabapilejagkaa.P
namespace Go.Proofs.Ytcabapilejagkaa.P
open Go.RowKit Go.Shelf Go.Proofs.YtcabapilejagkaaW.PrintWords Go.Proofs.YtcabapilejagkaaW.PrintLast Go.Proofs.YtcabapilejagkaaW.PrintMore
set_option linter.unusedVariables false
set_option linter.unusedSimpArgs false
def SI {α : Type} (d : Kd α) (w : World) (v : Value) (l : List α) : Prop := ∃ A c, v = .slice A l.length c ∧ l.length ≤ c ∧ d.C w A l.length l
theorem SI.below {α : Type} {d : Kd α} {w w' : World} {v : Value} {l : List α} (h : SI d w v l) (hb : Below w.heap.size w w') : SI d w' v l := by
  obtain ⟨A, c, e, h1, h2⟩ := h
  exact ⟨A, c, e, h1, Kd.C_below h2 hb⟩
theorem SI.of {α : Type} {d : Kd α} {w : World} {A : Option Addr} {c : Nat} {l : List α} (h2 : d.C w A l.length l) (h1 : l.length ≤ c) : SI d w (.slice A l.length c) l := ⟨A, c, rfl, h1, h2⟩
theorem SI.of_R {α : Type} {d : Kd α} {e : Nat} {w : World} {base : Nat} {ok : Nat → Prop} {v : Value} {l : List α} (h : d.R e w base ok v l) : SI d w v l := Kd.R_reads h
theorem SI.nil {α : Type} (d : Kd α) (w : World) : SI d w (.slice none 0 0) [] := ⟨none, 0, rfl, Nat.le_refl _, Kd.C_nil d w⟩
abbrev Hi := S37
abbrev kSp := k108
abbrev kPr := k30
def HI (w : World) (v : Value) (h : Hi) : Prop :=
  ∃ v5 v6 v7 v8, v = .agg #[.int .i64 h.f0, .int .u64 h.f1, .int .u64 h.f2, .int .u64 h.f3, .int .u64 h.f4, v5, v6, v7, v8] ∧ SI kSp w v5 h.f5 ∧ SI kSp w v6 h.f6 ∧ SI (Kd.int .i64) w v7 h.f7 ∧ SI (Kd.int .i64) w v8 h.f8
theorem HI.below {w w' : World} {v : Value} {h : Hi} (x : HI w v h) (hb : Below w.heap.size w w') : HI w' v h := by
  obtain ⟨v5, v6, v7, v8, e, h5, h6, h7, h8⟩ := x
  exact ⟨v5, v6, v7, v8, e, h5.below hb, h6.below hb, h7.below hb, h8.below hb⟩
theorem HI.open_ {w : World} {v : Value} {h : Hi} (x : HI w v h) : ∃ A5 c5 A6 c6 A7 c7 A8 c8, v = .agg #[.int .i64 h.f0, .int .u64 h.f1, .int .u64 h.f2, .int .u64 h.f3, .int .u64 h.f4, .slice A5 h.f5.length c5, .slice A6 h.f6.length c6, .slice A7 h.f7.length c7, .slice A8 h.f8.length c8] ∧
    SI kSp w (.slice A5 h.f5.length c5) h.f5 ∧ SI kSp w (.slice A6 h.f6.length c6) h.f6 ∧ SI (Kd.int .i64) w (.slice A7 h.f7.length c7) h.f7 ∧ SI (Kd.int .i64) w (.slice A8 h.f8.length c8) h.f8 := by
  obtain ⟨v5, v6, v7, v8, rfl, h5, h6, h7, h8⟩ := x
  obtain ⟨A5, c5, rfl, h51, h52⟩ := h5
  obtain ⟨A6, c6, rfl, h61, h62⟩ := h6
  obtain ⟨A7, c7, rfl, h71, h72⟩ := h7
  obtain ⟨A8, c8, rfl, h81, h82⟩ := h8
  exact ⟨A5, c5, A6, c6, A7, c7, A8, c8, rfl, .of h52 h51, .of h62 h61, .of h72 h71, .of h82 h81⟩
theorem HI.mk {w : World} {h : Hi} {v5 v6 v7 v8 : Value} (h5 : SI kSp w v5 h.f5) (h6 : SI kSp w v6 h.f6) (h7 : SI (Kd.int .i64) w v7 h.f7) (h8 : SI (Kd.int .i64) w v8 h.f8) :
    HI w (.agg #[.int .i64 h.f0, .int .u64 h.f1, .int .u64 h.f2, .int .u64 h.f3, .int .u64 h.f4, v5, v6, v7, v8]) h := ⟨v5, v6, v7, v8, rfl, h5, h6, h7, h8⟩
def wfH (h : Hi) : Prop := wfHi h.f0 h.f1 h.f2 h.f3 h.f4 h.f5 h.f6 h.f7 h.f8
def openR (h : Hi) : List Pr × List Pr × Int := openRes h.f0 h.f1 h.f2 h.f3 h.f4 h.f5 h.f6 h.f7 h.f8
def checkR (h : Hi) : Int := (openR h).2.2
theorem open_c (h : Hi) (hw : wfH h) (w : World) (v : Value) (hv : HI w v h) : Calls Try.prog 93 #[v] w fun e w' =>
    ∃ v0 v1 : Value, e = .returned (.tuple #[v0, v1, .int .i64 (openR h).2.2]) ∧ SI kPr w' v0 (openR h).1 ∧ SI kPr w' v1 (openR h).2.1 ∧ Below w.heap.size w w' := by
  obtain ⟨A5, c5, A6, c6, A7, c7, A8, c8, rfl, ⟨_, _, e5, h51, h52⟩, ⟨_, _, e6, h61, h62⟩, ⟨_, _, e7, h71, h72⟩, ⟨_, _, e8, h81, h82⟩⟩ := hv.open_
  cases e5; cases e6; cases e7; cases e8
  refine (hist_open.calls h.f0 h.f1 h.f2 h.f3 h.f4 A5 c5 h.f5 A6 c6 h.f6 A7 c7 h.f7 A8 c8 h.f8 (openR h).1 (openR h).2.1 (openR h).2.2 w h52 h51 h62 h61 h72 h71 h82 h81 (if_pos hw)).mono ?_
  rintro e w1 ⟨v0, v1, rfl, h0, h1, hb⟩
  exact ⟨v0, v1, rfl, .of_R h0, .of_R h1, hb⟩
set_option maxHeartbeats 4000000 in
set_option maxRecDepth 100000 in
theorem check_c (h : Hi) (hw : wfH h) (w : World) (v : Value) (hv : HI w v h) : Calls Try.prog 72 #[v] w fun e w' =>
    e = .returned (.int .i64 (checkR h)) ∧ Below w.heap.size w w' := by
  have hu := Try.underlying37
  obtain ⟨A5, c5, A6, c6, A7, c7, A8, c8, e, -⟩ := hv.open_
  subst e
  have HV := Aside0.mk hv
  have HW := Aside0.mk hw
  clear hv hw
  go_enter Try.func72, Try.ntmps72
  go_wp2_with (go_at_call 93; (with_reducible refine (open_c h HW.out _ _ (HV.out.below (below_alloc (Below.refl _ _) _))).mono ?_); rintro e w1 ⟨v0, v1, rfl, h0, h1, hb⟩; have HB := Aside0.mk (below_then (below_alloc (Below.refl w.heap.size w) _) (by simp) hb); clear h0 h1 hb)
  go_ret
  exact ⟨rfl, HB.out⟩
end Go.Proofs.Ytcabapilejagkaa.P
namespace Go.Proofs.Ytcabapilejagkaa.P
open Go.RowKit Go.Shelf Go.Proofs.YtcabapilejagkaaW.PrintWords Go.Proofs.YtcabapilejagkaaW.PrintLast Go.Proofs.YtcabapilejagkaaW.PrintMore
set_option linter.unusedVariables false
set_option linter.unusedSimpArgs false
def KA (base : Nat) (w w' : World) : Prop := w.heap.size ≤ w'.heap.size ∧ ∀ k, base ≤ k → k < w.heap.size → w'.heap[k]? = w.heap[k]?
theorem KA.refl (base : Nat) (w : World) : KA base w w := ⟨Nat.le_refl _, fun _ _ _ => rfl⟩
theorem KA.trans {base : Nat} {a b c : World} (h : KA base a b) (k : KA base b c) : KA base a c := ⟨Nat.le_trans h.1 k.1, fun i h0 h1 => (k.2 i h0 (Nat.lt_of_lt_of_le h1 h.1)).trans (h.2 i h0 h1)⟩
theorem KA.below {base : Nat} {w w' : World} (h : Below w.heap.size w w') : KA base w w' := ⟨h.size, fun k _ h1 => h.block k h1⟩
theorem KA.set {base b i : Nat} (w : World) (hb : b < base) (u : Value) : KA base w (w.setCell ⟨b, i, none⟩ u) := ⟨by simp [World.setCell], fun k h0 _ => Below.heap_setCell w ⟨b, i, none⟩ u k (by show k ≠ b; omega)⟩
def FI {α : Type} (d : Kd α) (base : Nat) (w : World) (v : Value) (l : List α) : Prop := ∀ w', KA base w w' → SI d w' v l
theorem FI.now {α : Type} {d : Kd α} {base : Nat} {w : World} {v : Value} {l : List α} (h : FI d base w v l) : SI d w v l := h w (KA.refl _ _)
theorem FI.at_ {α : Type} {d : Kd α} {base : Nat} {w w' : World} {v : Value} {l : List α} (h : FI d base w v l) (k : KA base w w') : SI d w' v l := h w' k
theorem FI.step {α : Type} {d : Kd α} {base : Nat} {w w' : World} {v : Value} {l : List α} (h : FI d base w v l) (k : KA base w w') : FI d base w' v l := fun w2 h2 => h w2 (k.trans h2)
theorem FI.of_R {α : Type} {d : Kd α} {e : Nat} {w : World} {base b : Nat} {ok : Nat → Prop} {v : Value} {l : List α} (h : d.R e w b ok v l) (hb : base ≤ b) : FI d base w v l := fun w' hk =>
  .of_R (Kd.R_step (Kd.R_bound h) (fun k ho hlt => hk.2 k (Nat.le_trans hb ho.2.1) hlt))
theorem FI.slice {α : Type} {d : Kd α} {base : Nat} {w : World} {v : Value} {l : List α} (h : FI d base w v l) : ∃ A c, v = .slice A l.length c := by obtain ⟨A, c, e, _⟩ := h.now; exact ⟨A, c, e⟩
def wfRow (l : List Pr) : Prop := wfPrs l ∧ l.length < 4398046511104
def HF (base : Nat) (w : World) (v : Value) (h : Hi) : Prop :=
  ∃ v5 v6 v7 v8, v = .agg #[.int .i64 h.f0, .int .u64 h.f1, .int .u64 h.f2, .int .u64 h.f3, .int .u64 h.f4, v5, v6, v7, v8] ∧ FI kSp base w v5 h.f5 ∧ FI kSp base w v6 h.f6 ∧ FI (Kd.int .i64) base w v7 h.f7 ∧ FI (Kd.int .i64) base w v8 h.f8
theorem HF.now {base : Nat} {w : World} {v : Value} {h : Hi} (x : HF base w v h) : HI w v h := by
  obtain ⟨v5, v6, v7, v8, e, h5, h6, h7, h8⟩ := x
  exact ⟨v5, v6, v7, v8, e, h5.now, h6.now, h7.now, h8.now⟩
theorem HF.step {base : Nat} {w w' : World} {v : Value} {h : Hi} (x : HF base w v h) (k : KA base w w') : HF base w' v h := by
  obtain ⟨v5, v6, v7, v8, e, h5, h6, h7, h8⟩ := x
  exact ⟨v5, v6, v7, v8, e, h5.step k, h6.step k, h7.step k, h8.step k⟩
theorem HF.mk {base : Nat} {w : World} {h : Hi} {v5 v6 v7 v8 : Value} (h5 : FI kSp base w v5 h.f5) (h6 : FI kSp base w v6 h.f6) (h7 : FI (Kd.int .i64) base w v7 h.f7) (h8 : FI (Kd.int .i64) base w v8 h.f8) :
    HF base w (.agg #[.int .i64 h.f0, .int .u64 h.f1, .int .u64 h.f2, .int .u64 h.f3, .int .u64 h.f4, v5, v6, v7, v8]) h := ⟨v5, v6, v7, v8, rfl, h5, h6, h7, h8⟩
theorem HF.open_ {base : Nat} {w : World} {v : Value} {h : Hi} (x : HF base w v h) : ∃ A5 c5 A6 c6 A7 c7 A8 c8, v = .agg #[.int .i64 h.f0, .int .u64 h.f1, .int .u64 h.f2, .int .u64 h.f3, .int .u64 h.f4, .slice A5 h.f5.length c5, .slice A6 h.f6.length c6, .slice A7 h.f7.length c7, .slice A8 h.f8.length c8] := by
  obtain ⟨A5, c5, A6, c6, A7, c7, A8, c8, e, -⟩ := x.now.open_
  exact ⟨A5, c5, A6, c6, A7, c7, A8, c8, e⟩
end Go.Proofs.Ytcabapilejagkaa.P
namespace Go.Proofs.Ytcabapilejagkaa.P
open Go.RowKit Go.Shelf Go.Proofs.YtcabapilejagkaaW.PrintWords Go.Proofs.YtcabapilejagkaaW.PrintLast Go.Proofs.YtcabapilejagkaaW.PrintMore
set_option linter.unusedVariables false
set_option linter.unusedSimpArgs false
attribute [local go_sem] Oper.semAt_some
def cnts (l : List Pr) : Prop := ∀ p ∈ l, i64 p.f0 ∧ 0 ≤ p.f1 ∧ p.f1 ≤ 9223372036854775807
instance (l : List Pr) : Decidable (cnts l) := by unfold cnts; exact inferInstance
end Go.Proofs.Ytcabapilejagkaa.P
namespace Go.Proofs.Ytcabapilejagkaa.P
open Go.RowKit Go.Shelf Go.Proofs.YtcabapilejagkaaW.PrintWords Go.Proofs.YtcabapilejagkaaW.PrintLast Go.Proofs.YtcabapilejagkaaW.PrintMore
set_option linter.unusedVariables false
set_option linter.unusedSimpArgs false
structure RowOK (l : List Pr) : Prop where
  wf : wfRow l
  len : l.length ≤ 4096
  cnt : cnts l
  ups : Ups (fun p : Pr => p.f0) l
theorem rises_ups : ∀ (l : List Int) (e : Int), rises e l = true → l.Pairwise (· < ·) ∧ ∀ x ∈ l, e ≤ x
  | [], _, _ => ⟨List.Pairwise.nil, fun x hx => by simp at hx⟩
  | p :: l, e, h => by
    simp only [rises, Bool.and_eq_true, decide_eq_true_eq] at h
    obtain ⟨h1, h2⟩ := rises_ups l (p + 1) h.2
    refine ⟨List.pairwise_cons.2 ⟨fun x hx => by have := h2 x hx; omega, h1⟩, fun x hx => ?_⟩
    rcases List.mem_cons.1 hx with rfl | hx
    · exact h.1.1
    · have := h2 x hx; omega
theorem zip_ups : ∀ (ps v : List Int), ps.Pairwise (· < ·) → Ups (fun p : Pr => p.f0) (List.zipWith (fun p x => (⟨p, x⟩ : Pr)) ps v)
  | [], _, _ => by simp [Ups]
  | p :: ps, [], _ => by simp [Ups]
  | p :: ps, x :: v, h => by
    have h1 := List.pairwise_cons.1 h
    refine List.pairwise_cons.2 ⟨fun y hy => ?_, zip_ups ps v h1.2⟩
    have : y.f0 ∈ ps := by
      obtain ⟨i, hi, rfl⟩ := List.mem_iff_getElem.1 hy
      simp only [List.getElem_zipWith]; exact List.getElem_mem _
    exact h1.1 _ this
theorem RowOK.nil : RowOK [] := ⟨⟨fun s hs => by simp at hs, by simp⟩, by simp, fun s hs => by simp at hs, Ups.nil⟩
theorem sideRes_row {l : List Sp} {d : List Int} (hd : i64s d) : RowOK (sideRes l d).1 := by
  by_cases h0 : (sideRes l d).2 = 0
  · obtain ⟨hc, hl⟩ := sideRes_ok hd h0
    unfold sideRes at h0 hc hl ⊢
    by_cases c1 : spCheck l = 0
    rotate_left
    · rw [if_neg c1] at h0; exact absurd h0 c1
    rw [if_pos c1] at h0 hc hl ⊢
    by_cases c2 : cntN l = d.length
    rotate_left
    · rw [if_neg c2] at h0; cases h0
    rw [if_pos c2] at h0 hc hl ⊢
    cases hs : sumsFrom 0 d with
    | none => rw [hs] at h0; cases h0
    | some c =>
      rw [hs] at h0 hc hl
      simp only at h0 hc hl ⊢
      by_cases c3 : c.any (fun x => decide (x < 0)) = true
      · rw [if_pos c3] at h0; cases h0
      rw [if_neg c3] at hc hl ⊢
      have hr := rises_of_right c1
      have hf : ∀ p ∈ List.zipWith (fun p x => (⟨p, x⟩ : Pr)) (plN 0 l) c, -1048576 ≤ p.f0 ∧ p.f0 ≤ 1048576 := by
        intro y hy
        have : y.f0 ∈ plN 0 l := by
          obtain ⟨i, hi, rfl⟩ := List.mem_iff_getElem.1 hy
          simp only [List.getElem_zipWith]; exact List.getElem_mem _
        exact rises_i64 hr _ this
      refine ⟨⟨fun p hp => ?_, by omega⟩, hl, fun p hp => ?_, zip_ups _ _ (rises_ups _ _ hr).1⟩
      · have h1 := hf p hp; have h2 := hc p hp; exact ⟨⟨by omega, by omega⟩, ⟨by omega, by omega⟩⟩
      · have h1 := hf p hp; have h2 := hc p hp; exact ⟨⟨by omega, by omega⟩, h2⟩
  · have : (sideRes l d).1 = [] := by
      unfold sideRes at h0 ⊢
      by_cases c1 : spCheck l = 0
      · rw [if_pos c1] at h0 ⊢
        by_cases c2 : cntN l = d.length
        · rw [if_pos c2] at h0 ⊢
          cases hs : sumsFrom 0 d with
          | none => rfl
          | some c =>
            rw [hs] at h0
            simp only at h0 ⊢
            by_cases c3 : c.any (fun x => decide (x < 0)) = true
            · rw [if_pos c3]
            · rw [if_neg c3] at h0; exact absurd rfl h0
        · rw [if_neg c2]
      · rw [if_neg c1]
    rw [this]; exact RowOK.nil
theorem openR_row {h : Hi} (hw : wfH h) : RowOK (openR h).1 ∧ RowOK (openR h).2.1 := by
  obtain ⟨-, -, -, -, -, -, -, h7, h8, -⟩ := hw
  have a := sideRes_row (l := h.f5) h7
  have b := sideRes_row (l := h.f6) h8
  unfold openR openRes
  repeat' split
  all_goals first | exact ⟨a, b⟩ | exact ⟨RowOK.nil, RowOK.nil⟩
end Go.Proofs.Ytcabapilejagkaa.P
namespace Go.Proofs.Ytcabapilejagkaa.P
open Go.RowKit Go.Proofs.YtcabapilejagkaaW.PrintWords Go.Proofs.YtcabapilejagkaaW.PrintLast Go.Proofs.YtcabapilejagkaaW.PrintMore
attribute [local go_sem] max2_int min2_int max_two min_two max_three min_three max_four min_four
set_option linter.unusedVariables false
set_option linter.unusedSimpArgs false
def tidepoleref09_Side.l0 : Nat → List Int → List Int → Int → Option (List Int × List Int × Int)
 | 0, _, _, _ => none
 | k + 1, x8, x9, x11 => if x11 < (x9.length : Int) then (if 0 ≤ x11 then (if (rd x9 x11) < 0 then (some (([] : List Int), ([] : List Int), 22)) else (tidepoleref09_Side.l0 k x8 x9 (wrap64 (x11 + 1)))) else (none)) else (some (x8, x9, 0))
def tidepoleref09_Side.f (k : Nat) (l0 : List (S144)) (l1 : List Int) : Option (List Int × List Int × Int) := (tidepoleref06_Check.f k l0).bind fun t101 => (if t101 = 0 then ((tidepoleref06_Places.f k l0).bind fun t102 => (if (t102.length : Int) = (l1.length : Int) then ((tidepoleref07_Absolute.f k l1).bind fun bt105 => (if bt105.2 = 1 then (some (([] : List Int), ([] : List Int), 28)) else (tidepoleref09_Side.l0 k t102 bt105.1 0))) else (some (([] : List Int), ([] : List Int), 23)))) else (some (([] : List Int), ([] : List Int), t101)))
set_option maxHeartbeats 8000000 in
set_option maxRecDepth 100000 in
theorem tidepoleref09_Side.calls (k : Nat) (A0 : Option Addr) (c0 : Nat) (l0 : List (S144)) (A1 : Option Addr) (c1 : Nat) (l1 : List Int) (r1 : List Int) (r2 : List Int) (r3 : Int) (w : World) (hr0 : Kd.C k144 w A0 l0.length l0) (hc0 : l0.length ≤ c0) (hr1 : Kd.C (Kd.int .i64) w A1 l1.length l1) (hc1 : l1.length ≤ c1) (h : tidepoleref09_Side.f k l0 l1 = some (r1, r2, r3)) :
  Calls Try.prog 30 #[.slice A0 l0.length c0, .slice A1 l1.length c1] w fun e w' => ∃ v0_ v1_ : Value, e = .returned (.tuple #[v0_, v1_, .int .i64 r3]) ∧ Kd.R (Kd.int .i64) 3 w' w.heap.size (fun _ => True) v0_ r1 ∧ Kd.R (Kd.int .i64) 2 w' w.heap.size (fun _ => True) v1_ r2 ∧ Below w.heap.size w w' := by
 have HR0 := Aside0.mk hr0
 have HC0 := Aside0.mk hc0
 clear hr0 hc0
 have HR1 := Aside0.mk hr1
 have HC1 := Aside0.mk hc1
 clear hr1 hc1
 have HB := Aside0.mk (Below.refl w.heap.size w)
 have H : ((tidepoleref06_Check.f k l0).bind fun t101 => (if t101 = 0 then ((tidepoleref06_Places.f k l0).bind fun t102 => (if (t102.length : Int) = (l1.length : Int) then ((tidepoleref07_Absolute.f k l1).bind fun bt105 => (if bt105.2 = 1 then (some (([] : List Int), ([] : List Int), 28)) else (tidepoleref09_Side.l0 k t102 bt105.1 0))) else (some (([] : List Int), ([] : List Int), 23)))) else (some (([] : List Int), ([] : List Int), t101)))) = some (r1, r2, r3) := h
 clear h
 replace H := Option.bind_eq_some_iff.mp H
 obtain ⟨t101, A30, H⟩ := H
 replace H : (if t101 = 0 then ((tidepoleref06_Places.f k l0).bind fun t102 => (if (t102.length : Int) = (l1.length : Int) then ((tidepoleref07_Absolute.f k l1).bind fun bt105 => (if bt105.2 = 1 then (some (([] : List Int), ([] : List Int), 28)) else (tidepoleref09_Side.l0 k t102 bt105.1 0))) else (some (([] : List Int), ([] : List Int), 23)))) else (some (([] : List Int), ([] : List Int), t101))) = some (r1, r2, r3) := H
 have A3 := Aside0.mk A30
 clear A30
 by_cases c4 : t101 = 0
 ·rw [if_pos c4] at H
  have c4b0 : (t101 == 0) = true := beq_iff_eq.mpr c4
  have c4b1 : (t101 != 0) = false := bne_eq_false_iff_eq.mpr c4
  clear c4
  replace H := Option.bind_eq_some_iff.mp H
  obtain ⟨t102, A50, H⟩ := H
  replace H : (if (t102.length : Int) = (l1.length : Int) then ((tidepoleref07_Absolute.f k l1).bind fun bt105 => (if bt105.2 = 1 then (some (([] : List Int), ([] : List Int), 28)) else (tidepoleref09_Side.l0 k t102 bt105.1 0))) else (some (([] : List Int), ([] : List Int), 23))) = some (r1, r2, r3) := H
  have A5 := Aside0.mk A50
  clear A50
  by_cases c6 : (t102.length : Int) = (l1.length : Int)
  ·rw [if_pos c6] at H
   have c6b0 : ((t102.length : Int) == (l1.length : Int)) = true := beq_iff_eq.mpr c6
   have c6b1 : ((t102.length : Int) != (l1.length : Int)) = false := bne_eq_false_iff_eq.mpr c6
   have c6b2 : (t102.length == l1.length) = true := by first | simpa using c6 | (simp at c6 ⊢; omega)
   clear c6
   replace H := Option.bind_eq_some_iff.mp H
   obtain ⟨⟨t105, t106⟩, A70, H⟩ := H
   replace H : (if t106 = 1 then (some (([] : List Int), ([] : List Int), 28)) else (tidepoleref09_Side.l0 k t102 t105 0)) = some (r1, r2, r3) := H
   have A7 := Aside0.mk A70
   clear A70
   by_cases c8 : t106 = 1
   ·rw [if_pos c8] at H
    have c8b0 : (t106 == 1) = true := beq_iff_eq.mpr c8
    have c8b1 : (t106 != 1) = false := bne_eq_false_iff_eq.mpr c8
    clear c8
    simp only [Option.some.injEq, Prod.mk.injEq] at H
    obtain ⟨rfl, rfl, rfl⟩ := H
    go_enter Try.func30, Try.ntmps30
    go_wp2_with (first | ((with_reducible refine gate_callee (f := 91) rfl ?_); refine goesL_ (some 13) rfl rfl Try.func91 (by kernel_rfl) rfl #[.slice A0 l0.length c0] rfl (by (try simp only [List.map_toArray, List.map_cons, List.map_nil]); first | done | rfl | (simp only [List.length_drop, List.length_take]; rfl)) ?_; (with_reducible refine (tidepoleref06_Check.calls k _ _ l0 t101 _ ?side1 ?side2 A3.out).mono ?_); (case side1 => repeat (first | exact HR0.out | (with_reducible refine Kd.C_alloc ?_ _) | (with_reducible refine Kd.C_drewN ?_ _) | (with_reducible refine Kd.C_drew ?_))); (case side2 => exact HC0.out); rintro e w9 ⟨rfl, hb⟩; refine ⟨_, rfl, ?_⟩; have n0_ := Aside0.mk (below_step (by repeat (first | (with_reducible first | exact HB.out | apply below_alloc | apply pw_below_drewN | apply below_drew1) | exact HB.out)) hb); clear HB; have HB := n0_; clear n0_; (try clear hb); (try clear hb2); (try clear hk); (try clear hi); clear A3) | ((with_reducible refine gate_callee (f := 92) rfl ?_); refine goesL_ (some 18) rfl rfl Try.func92 (by kernel_rfl) rfl #[.slice A0 l0.length c0] rfl (by (try simp only [List.map_toArray, List.map_cons, List.map_nil]); first | done | rfl | (simp only [List.length_drop, List.length_take]; rfl)) ?_; (with_reducible refine (tidepoleref06_Places.calls k _ _ l0 t102 _ ?side1 ?side2 A5.out).mono ?_); (case side1 => repeat (first | exact (Kd.C_below HR0.out HB.out) | (with_reducible refine Kd.C_alloc ?_ _) | (with_reducible refine Kd.C_drewN ?_ _) | (with_reducible refine Kd.C_drew ?_))); (case side2 => exact HC0.out); rintro e w10 ⟨v103, rfl, ho0, hb⟩; refine ⟨_, rfl, ?_⟩; have n0_ := Aside0.mk (Kd.R_lower ho0 (below_size (by repeat (first | (with_reducible first | exact HB.out | apply below_alloc | apply pw_below_drewN | apply below_drew1) | exact HB.out)))); have n1_ := Aside0.mk (below_step (by repeat (first | (with_reducible first | exact HB.out | apply below_alloc | apply pw_below_drewN | apply below_drew1) | exact HB.out)) hb); clear HB; have HO104 := n0_; have HB := n1_; clear n0_ n1_; (try clear hb); (try clear hb2); (try clear hk); (try clear hi); (try clear ho0); clear A5; obtain ⟨Ao11, co11, eo11⟩ := Kd.R_slice HO104.out; subst eo11) | ((with_reducible refine gate_callee (f := 61) rfl ?_); refine goesL_ (some 26) rfl rfl Try.func61 (by kernel_rfl) rfl #[.slice A1 l1.length c1] rfl (by (try simp only [List.map_toArray, List.map_cons, List.map_nil]); first | done | rfl | (simp only [List.length_drop, List.length_take]; rfl)) ?_; (with_reducible refine (tidepoleref07_Absolute.calls k _ _ l1 t105 t106 _ ?side1 ?side2 A7.out).mono ?_); (case side1 => repeat (first | exact (Kd.C_below HR1.out HB.out) | (with_reducible refine Kd.C_alloc ?_ _) | (with_reducible refine Kd.C_drewN ?_ _) | (with_reducible refine Kd.C_drew ?_))); (case side2 => exact HC1.out); rintro e w12 ⟨v107, rfl, ho0, hb⟩; refine ⟨_, rfl, ?_⟩; have n0_ := Aside0.mk (Kd.R_below (by (with_reducible repeat (first | apply Kd.R_alloc | apply Kd.R_drewN | apply Kd.R_drew)); exact HO104.out) hb); have n1_ := Aside0.mk (Kd.R_lower ho0 (below_size (by repeat (first | (with_reducible first | exact HB.out | apply below_alloc | apply pw_below_drewN | apply below_drew1) | exact HB.out)))); have n2_ := Aside0.mk (below_step (by repeat (first | (with_reducible first | exact HB.out | apply below_alloc | apply pw_below_drewN | apply below_drew1) | exact HB.out)) hb); clear HO104; clear HB; have HO104 := n0_; have HO108 := n1_; have HB := n2_; clear n0_ n1_ n2_; (try clear hb); (try clear hb2); (try clear hk); (try clear hi); (try clear ho0); clear A7))
    go_ret3
    exact ⟨_, _, by first | rfl | (simp [errW_none, errW_some] <;> rfl) | (simp [*, errW_none, errW_some] <;> rfl), by first | exact Kd.R_nil _ _ _ _ _ | exact Kd.N_nil _ _ _ _ _ | exact Kd.V_nil _ _ _ _ _ | exact Kd.Q_nil _ _ _ _ _ | exact Kd.S_nil _ _ _ _ _, by first | exact Kd.R_nil _ _ _ _ _ | exact Kd.N_nil _ _ _ _ _ | exact Kd.V_nil _ _ _ _ _ | exact Kd.Q_nil _ _ _ _ _ | exact Kd.S_nil _ _ _ _ _, by repeat (first | (with_reducible first | exact HB.out | apply below_alloc | apply pw_below_drewN | apply below_drew1) | exact HB.out)⟩
   ·rw [if_neg c8] at H
    have c8b0 : (t106 == 1) = false := beq_eq_false_iff_ne.mpr c8
    have c8b1 : (t106 != 1) = true := bne_iff_ne.mpr c8
    have H' := Aside0.mk H
    clear H
    go_enter Try.func30, Try.ntmps30
    go_wp2_with (first | ((with_reducible refine gate_callee (f := 91) rfl ?_); refine goesL_ (some 13) rfl rfl Try.func91 (by kernel_rfl) rfl #[.slice A0 l0.length c0] rfl (by (try simp only [List.map_toArray, List.map_cons, List.map_nil]); first | done | rfl | (simp only [List.length_drop, List.length_take]; rfl)) ?_; (with_reducible refine (tidepoleref06_Check.calls k _ _ l0 t101 _ ?side1 ?side2 A3.out).mono ?_); (case side1 => repeat (first | exact HR0.out | (with_reducible refine Kd.C_alloc ?_ _) | (with_reducible refine Kd.C_drewN ?_ _) | (with_reducible refine Kd.C_drew ?_))); (case side2 => exact HC0.out); rintro e w13 ⟨rfl, hb⟩; refine ⟨_, rfl, ?_⟩; have n0_ := Aside0.mk (below_step (by repeat (first | (with_reducible first | exact HB.out | apply below_alloc | apply pw_below_drewN | apply below_drew1) | exact HB.out)) hb); clear HB; have HB := n0_; clear n0_; (try clear hb); (try clear hb2); (try clear hk); (try clear hi); clear A3) | ((with_reducible refine gate_callee (f := 92) rfl ?_); refine goesL_ (some 18) rfl rfl Try.func92 (by kernel_rfl) rfl #[.slice A0 l0.length c0] rfl (by (try simp only [List.map_toArray, List.map_cons, List.map_nil]); first | done | rfl | (simp only [List.length_drop, List.length_take]; rfl)) ?_; (with_reducible refine (tidepoleref06_Places.calls k _ _ l0 t102 _ ?side1 ?side2 A5.out).mono ?_); (case side1 => repeat (first | exact (Kd.C_below HR0.out HB.out) | (with_reducible refine Kd.C_alloc ?_ _) | (with_reducible refine Kd.C_drewN ?_ _) | (with_reducible refine Kd.C_drew ?_))); (case side2 => exact HC0.out); rintro e w14 ⟨v103, rfl, ho0, hb⟩; refine ⟨_, rfl, ?_⟩; have n0_ := Aside0.mk (Kd.R_lower ho0 (below_size (by repeat (first | (with_reducible first | exact HB.out | apply below_alloc | apply pw_below_drewN | apply below_drew1) | exact HB.out)))); have n1_ := Aside0.mk (below_step (by repeat (first | (with_reducible first | exact HB.out | apply below_alloc | apply pw_below_drewN | apply below_drew1) | exact HB.out)) hb); clear HB; have HO104 := n0_; have HB := n1_; clear n0_ n1_; (try clear hb); (try clear hb2); (try clear hk); (try clear hi); (try clear ho0); clear A5; obtain ⟨Ao15, co15, eo15⟩ := Kd.R_slice HO104.out; subst eo15) | ((with_reducible refine gate_callee (f := 61) rfl ?_); refine goesL_ (some 26) rfl rfl Try.func61 (by kernel_rfl) rfl #[.slice A1 l1.length c1] rfl (by (try simp only [List.map_toArray, List.map_cons, List.map_nil]); first | done | rfl | (simp only [List.length_drop, List.length_take]; rfl)) ?_; (with_reducible refine (tidepoleref07_Absolute.calls k _ _ l1 t105 t106 _ ?side1 ?side2 A7.out).mono ?_); (case side1 => repeat (first | exact (Kd.C_below HR1.out HB.out) | (with_reducible refine Kd.C_alloc ?_ _) | (with_reducible refine Kd.C_drewN ?_ _) | (with_reducible refine Kd.C_drew ?_))); (case side2 => exact HC1.out); rintro e w16 ⟨v107, rfl, ho0, hb⟩; refine ⟨_, rfl, ?_⟩; have n0_ := Aside0.mk (Kd.R_below (by (with_reducible repeat (first | apply Kd.R_alloc | apply Kd.R_drewN | apply Kd.R_drew)); exact HO104.out) hb); have n1_ := Aside0.mk (Kd.R_lower ho0 (below_size (by repeat (first | (with_reducible first | exact HB.out | apply below_alloc | apply pw_below_drewN | apply below_drew1) | exact HB.out)))); have n2_ := Aside0.mk (below_step (by repeat (first | (with_reducible first | exact HB.out | apply below_alloc | apply pw_below_drewN | apply below_drew1) | exact HB.out)) hb); clear HO104; clear HB; have HO104 := n0_; have HO108 := n1_; have HB := n2_; clear n0_ n1_ n2_; (try clear hb); (try clear hb2); (try clear hk); (try clear hi); (try clear ho0); clear A7))
    go_loopg [11] k (fun kq v11 w' => ∃ (x11_1 : Int), v11 = .int .i64 x11_1 ∧ Aside0 (tidepoleref09_Side.l0 kq t102 t105 x11_1 = some (r1, r2, r3)) ∧ Aside0 (kq ≤ k) ∧ Aside0 (Kd.R (Kd.int .i64) 3 w' w.heap.size (fun _ => True) (.slice Ao15 t102.length co15) t102) ∧ Aside0 (Kd.R (Kd.int .i64) 2 w' w.heap.size (fun _ => True) v107 t105) ∧ Aside0 (Below w.heap.size w w'))
    case atStart => exact ⟨(0), (by first | rfl | (simp; done) | (simp [*]; done)), H', ⟨Nat.le_refl _⟩, ⟨by (with_reducible repeat (first | apply Kd.R_alloc | apply Kd.R_drewN | apply Kd.R_drew)); exact HO104.out⟩, ⟨by (with_reducible repeat (first | apply Kd.R_alloc | apply Kd.R_drewN | apply Kd.R_drew)); exact HO108.out⟩, ⟨by repeat (first | (with_reducible first | exact HB.out | apply below_alloc | apply pw_below_drewN | apply below_drew1) | exact HB.out)⟩⟩
    case round =>
     clear H'
     try clear c1
     try clear p2
     try clear c3
     try clear c4
     try clear c4b0
     try clear c4b1
     try clear c6
     try clear c6b0
     try clear c6b1
     try clear c6b2
     try clear c8
     try clear c8b0
     try clear c8b1
     try clear c9
     obtain ⟨x11_1, rfl, HA, HK1, HO_8, HO_9, HB⟩ := hrel
     cases gk with
     | zero => exact absurd HA.out (by simp [tidepoleref09_Side.l0])
     | succ k1 =>
      have H := HA.out
      clear HA
      simp only [tidepoleref09_Side.l0] at H
      by_cases c17 : x11_1 < (t105.length : Int)
      ·rw [if_pos c17] at H
       have c17b0 : decide (x11_1 < (t105.length : Int)) = true := decide_eq_true c17
       clear c17
       by_cases c18 : 0 ≤ x11_1
       ·rw [if_pos c18] at H
        have c18b0 : decide (0 ≤ x11_1) = true := decide_eq_true c18
        clear c18
        by_cases c19 : (rd t105 x11_1) < 0
        ·rw [if_pos c19] at H
         have c19b0 : decide ((rd t105 x11_1) < 0) = true := decide_eq_true c19
         clear c19
         simp only [Option.some.injEq, Prod.mk.injEq] at H
         obtain ⟨rfl, rfl, rfl⟩ := H
         obtain ⟨Ao20, co20, eo20⟩ := Kd.R_slice HO_9.out
         subst eo20
         have p109 : 0 ≤ (x11_1 : Int) := of_decide_eq_true (by first | (with_reducible assumption) | assumption)
         have q109 : x11_1 < (t105.length : Int) := of_decide_eq_true (by first | (with_reducible assumption) | assumption)
         obtain ⟨ad109, e109, hx109_0⟩ := Kd.at_int (Kd.R_reads' HO_9.out).2.2 x11_1 p109 q109
         cases e109
         replace p109 := eq_true p109
         replace q109 := eq_true q109
         go_wp2
         go_ret3
         exact ⟨_, _, by first | rfl | (simp [errW_none, errW_some] <;> rfl) | (simp [*, errW_none, errW_some] <;> rfl), by first | exact Kd.R_nil _ _ _ _ _ | exact Kd.N_nil _ _ _ _ _ | exact Kd.V_nil _ _ _ _ _ | exact Kd.Q_nil _ _ _ _ _ | exact Kd.S_nil _ _ _ _ _, by first | exact Kd.R_nil _ _ _ _ _ | exact Kd.N_nil _ _ _ _ _ | exact Kd.V_nil _ _ _ _ _ | exact Kd.Q_nil _ _ _ _ _ | exact Kd.S_nil _ _ _ _ _, by repeat (first | (with_reducible first | exact HB.out | apply below_alloc | apply pw_below_drewN | apply below_drew1) | exact HB.out)⟩
        ·rw [if_neg c19] at H
         have c19b0 : decide ((rd t105 x11_1) < 0) = false := decide_eq_false c19
         clear c19
         have H' := Aside0.mk H
         clear H
         obtain ⟨Ao21, co21, eo21⟩ := Kd.R_slice HO_9.out
         subst eo21
         have p109 : 0 ≤ (x11_1 : Int) := of_decide_eq_true (by first | (with_reducible assumption) | assumption)
         have q109 : x11_1 < (t105.length : Int) := of_decide_eq_true (by first | (with_reducible assumption) | assumption)
         obtain ⟨ad109, e109, hx109_0⟩ := Kd.at_int (Kd.R_reads' HO_9.out).2.2 x11_1 p109 q109
         cases e109
         replace p109 := eq_true p109
         replace q109 := eq_true q109
         go_wp2
         go_roundg k1
         case measure => have := HK1.out; omega
         case rel => exact ⟨(wrap64 (x11_1 + 1)), (by first | rfl | (simp; done) | (simp [*]; done)), H', ⟨by have := HK1.out; omega⟩, ⟨by (with_reducible repeat (first | apply Kd.R_alloc | apply Kd.R_drewN | apply Kd.R_drew)); exact HO_8.out⟩, ⟨by (with_reducible repeat (first | apply Kd.R_alloc | apply Kd.R_drewN | apply Kd.R_drew)); exact HO_9.out⟩, ⟨by repeat (first | (with_reducible first | exact HB.out | apply below_alloc | apply pw_below_drewN | apply below_drew1) | exact HB.out)⟩⟩
       ·rw [if_neg c18] at H
        exact absurd H (by simp)
      ·rw [if_neg c17] at H
       have c17b0 : decide (x11_1 < (t105.length : Int)) = false := decide_eq_false c17
       clear c17
       simp only [Option.some.injEq, Prod.mk.injEq] at H
       obtain ⟨rfl, rfl, rfl⟩ := H
       obtain ⟨Ao22, co22, eo22⟩ := Kd.R_slice HO_9.out
       subst eo22
       go_wp2
       go_ret3
       exact ⟨_, _, by first | rfl | (simp [errW_none, errW_some] <;> rfl) | (simp [*, errW_none, errW_some] <;> rfl), by (with_reducible repeat (first | apply Kd.R_alloc | apply Kd.R_drewN | apply Kd.R_drew)); exact HO_8.out, by (with_reducible repeat (first | apply Kd.R_alloc | apply Kd.R_drewN | apply Kd.R_drew)); exact HO_9.out, by repeat (first | (with_reducible first | exact HB.out | apply below_alloc | apply pw_below_drewN | apply below_drew1) | exact HB.out)⟩
  ·rw [if_neg c6] at H
   have c6b0 : ((t102.length : Int) == (l1.length : Int)) = false := beq_eq_false_iff_ne.mpr c6
   have c6b1 : ((t102.length : Int) != (l1.length : Int)) = true := bne_iff_ne.mpr c6
   have c6b2 : (t102.length == l1.length) = false := by first | simpa using c6 | (simp at c6 ⊢; omega)
   simp only [Option.some.injEq, Prod.mk.injEq] at H
   obtain ⟨rfl, rfl, rfl⟩ := H
   go_enter Try.func30, Try.ntmps30
   go_wp2_with (first | ((with_reducible refine gate_callee (f := 91) rfl ?_); refine goesL_ (some 13) rfl rfl Try.func91 (by kernel_rfl) rfl #[.slice A0 l0.length c0] rfl (by (try simp only [List.map_toArray, List.map_cons, List.map_nil]); first | done | rfl | (simp only [List.length_drop, List.length_take]; rfl)) ?_; (with_reducible refine (tidepoleref06_Check.calls k _ _ l0 t101 _ ?side1 ?side2 A3.out).mono ?_); (case side1 => repeat (first | exact HR0.out | (with_reducible refine Kd.C_alloc ?_ _) | (with_reducible refine Kd.C_drewN ?_ _) | (with_reducible refine Kd.C_drew ?_))); (case side2 => exact HC0.out); rintro e w23 ⟨rfl, hb⟩; refine ⟨_, rfl, ?_⟩; have n0_ := Aside0.mk (below_step (by repeat (first | (with_reducible first | exact HB.out | apply below_alloc | apply pw_below_drewN | apply below_drew1) | exact HB.out)) hb); clear HB; have HB := n0_; clear n0_; (try clear hb); (try clear hb2); (try clear hk); (try clear hi); clear A3) | ((with_reducible refine gate_callee (f := 92) rfl ?_); refine goesL_ (some 18) rfl rfl Try.func92 (by kernel_rfl) rfl #[.slice A0 l0.length c0] rfl (by (try simp only [List.map_toArray, List.map_cons, List.map_nil]); first | done | rfl | (simp only [List.length_drop, List.length_take]; rfl)) ?_; (with_reducible refine (tidepoleref06_Places.calls k _ _ l0 t102 _ ?side1 ?side2 A5.out).mono ?_); (case side1 => repeat (first | exact (Kd.C_below HR0.out HB.out) | (with_reducible refine Kd.C_alloc ?_ _) | (with_reducible refine Kd.C_drewN ?_ _) | (with_reducible refine Kd.C_drew ?_))); (case side2 => exact HC0.out); rintro e w24 ⟨v103, rfl, ho0, hb⟩; refine ⟨_, rfl, ?_⟩; have n0_ := Aside0.mk (Kd.R_lower ho0 (below_size (by repeat (first | (with_reducible first | exact HB.out | apply below_alloc | apply pw_below_drewN | apply below_drew1) | exact HB.out)))); have n1_ := Aside0.mk (below_step (by repeat (first | (with_reducible first | exact HB.out | apply below_alloc | apply pw_below_drewN | apply below_drew1) | exact HB.out)) hb); clear HB; have HO104 := n0_; have HB := n1_; clear n0_ n1_; (try clear hb); (try clear hb2); (try clear hk); (try clear hi); (try clear ho0); clear A5; obtain ⟨Ao25, co25, eo25⟩ := Kd.R_slice HO104.out; subst eo25))
   go_ret3
   exact ⟨_, _, by first | rfl | (simp [errW_none, errW_some] <;> rfl) | (simp [*, errW_none, errW_some] <;> rfl), by first | exact Kd.R_nil _ _ _ _ _ | exact Kd.N_nil _ _ _ _ _ | exact Kd.V_nil _ _ _ _ _ | exact Kd.Q_nil _ _ _ _ _ | exact Kd.S_nil _ _ _ _ _, by first | exact Kd.R_nil _ _ _ _ _ | exact Kd.N_nil _ _ _ _ _ | exact Kd.V_nil _ _ _ _ _ | exact Kd.Q_nil _ _ _ _ _ | exact Kd.S_nil _ _ _ _ _, by repeat (first | (with_reducible first | exact HB.out | apply below_alloc | apply pw_below_drewN | apply below_drew1) | exact HB.out)⟩
 ·rw [if_neg c4] at H
  have c4b0 : (t101 == 0) = false := beq_eq_false_iff_ne.mpr c4
  have c4b1 : (t101 != 0) = true := bne_iff_ne.mpr c4
  simp only [Option.some.injEq, Prod.mk.injEq] at H
  obtain ⟨rfl, rfl, rfl⟩ := H
  go_enter Try.func30, Try.ntmps30
  go_wp2_with (first | ((with_reducible refine gate_callee (f := 91) rfl ?_); refine goesL_ (some 13) rfl rfl Try.func91 (by kernel_rfl) rfl #[.slice A0 l0.length c0] rfl (by (try simp only [List.map_toArray, List.map_cons, List.map_nil]); first | done | rfl | (simp only [List.length_drop, List.length_take]; rfl)) ?_; (with_reducible refine (tidepoleref06_Check.calls k _ _ l0 t101 _ ?side1 ?side2 A3.out).mono ?_); (case side1 => repeat (first | exact HR0.out | (with_reducible refine Kd.C_alloc ?_ _) | (with_reducible refine Kd.C_drewN ?_ _) | (with_reducible refine Kd.C_drew ?_))); (case side2 => exact HC0.out); rintro e w26 ⟨rfl, hb⟩; refine ⟨_, rfl, ?_⟩; have n0_ := Aside0.mk (below_step (by repeat (first | (with_reducible first | exact HB.out | apply below_alloc | apply pw_below_drewN | apply below_drew1) | exact HB.out)) hb); clear HB; have HB := n0_; clear n0_; (try clear hb); (try clear hb2); (try clear hk); (try clear hi); clear A3))
  go_ret3
  exact ⟨_, _, by first | rfl | (simp [errW_none, errW_some] <;> rfl) | (simp [*, errW_none, errW_some] <;> rfl), by first | exact Kd.R_nil _ _ _ _ _ | exact Kd.N_nil _ _ _ _ _ | exact Kd.V_nil _ _ _ _ _ | exact Kd.Q_nil _ _ _ _ _ | exact Kd.S_nil _ _ _ _ _, by first | exact Kd.R_nil _ _ _ _ _ | exact Kd.N_nil _ _ _ _ _ | exact Kd.V_nil _ _ _ _ _ | exact Kd.Q_nil _ _ _ _ _ | exact Kd.S_nil _ _ _ _ _, by repeat (first | (with_reducible first | exact HB.out | apply below_alloc | apply pw_below_drewN | apply below_drew1) | exact HB.out)⟩
def tidepoleref09_Head.j0 : Nat → Int → Bool → Option (Int)
 | 0, _, _ => none
 | k + 1, x1, x10 => if x10 = true then (some 21) else (if x1 ≥ 9218868437227405312 then (some 11) else (some 0))
def tidepoleref09_Head.f (k : Nat) (a0 : Int) (a1 : Int) : Option (Int) := if a0 < (-4) then (tidepoleref09_Head.j0 k a1 true) else (tidepoleref09_Head.j0 k a1 (decide (a0 > 8)))
set_option maxHeartbeats 8000000 in
set_option maxRecDepth 100000 in
theorem tidepoleref09_Head.calls (k : Nat) (a0 : Int) (a1 : Int) (r : Int) (w : World) (h : tidepoleref09_Head.f k a0 a1 = some r) :
  Calls Try.prog 89 #[.int .i64 a0, .int .u64 a1] w fun e w' => e = .returned (.int .i64 r) ∧ Drawn0 w w' := by
 have H : (if a0 < (-4) then (tidepoleref09_Head.j0 k a1 true) else (tidepoleref09_Head.j0 k a1 (decide (a0 > 8)))) = some r := h
 clear h
 have HC3 := Aside0.mk H
 clear H
 go_enter Try.func89, Try.ntmps89
 go_upto_region 1 with (fail)
 go_cut [10] (fun v10 wc => ∃ (kq : Nat) (x10_2 : Bool), v10 = .bool x10_2 ∧ Aside0 (tidepoleref09_Head.j0 kq a1 x10_2 = some r) ∧ Aside0 (kq ≤ k) ∧ Drawn0 w wc)
 case first =>
  have H := HC3.out
  clear HC3
  by_cases c4 : a0 < (-4)
  ·rw [if_pos c4] at H
   have c4b0 : decide (a0 < (-4)) = true := decide_eq_true c4
   clear c4
   (first | rw [c4b0] | (simp only [i64_w, i32_w]; rw [c4b0]) | skip)
   have H' := Aside0.mk H
   clear H
   go_wp2
   go_meet
   case rel => exact ⟨_, (true), (by first | rfl | (simp; done) | (simp [*]; done)), H', ⟨by first | omega | exact Nat.le_refl _⟩, by repeat (first | exact Drawn0.refl _ | apply Drawn0.step)⟩
  ·rw [if_neg c4] at H
   have c4b0 : decide (a0 < (-4)) = false := decide_eq_false c4
   clear c4
   (first | rw [c4b0] | (simp only [i64_w, i32_w]; rw [c4b0]) | skip)
   have H' := Aside0.mk H
   clear H
   go_wp2
   go_meet
   case rel => exact ⟨_, (decide (a0 > 8)), (by first | rfl | (simp; done) | (simp [*]; done)), H', ⟨by first | omega | exact Nat.le_refl _⟩, by repeat (first | exact Drawn0.refl _ | apply Drawn0.step)⟩
 case rest =>
  clear HC3
  try clear p2
  try clear c4
  try clear c4b0
  obtain ⟨kq, x10_2, rfl, HA, HJ2, ⟨mc2, rfl⟩⟩ := hcut
  cases kq with
  | zero => exact absurd HA.out (by simp [tidepoleref09_Head.j0])
  | succ kj2 =>
   have H := HA.out
   clear HA
   simp only [tidepoleref09_Head.j0] at H
   by_cases c5 : x10_2 = true
   ·subst c5
    have H1 : (some 21) = some r := by rw [if_pos rfl] at H; exact H
    clear H
    have H := H1
    clear H1
    obtain rfl := Option.some.inj H
    go_wp2
    go_ret
    exact ⟨by first | rfl | (simp; done) | (simp [*]; done), by repeat (first | exact Drawn0.refl _ | apply Drawn0.step)⟩
   ·replace c5 := Bool.eq_false_iff.mpr c5
    subst c5
    have H1 : (if a1 ≥ 9218868437227405312 then (some 11) else (some 0)) = some r := by rw [if_neg (show ¬ (false = true) by decide)] at H; exact H
    clear H
    have H := H1
    clear H1
    by_cases c6 : a1 ≥ 9218868437227405312
    ·rw [if_pos c6] at H
     have c6b0 : decide (9218868437227405312 ≤ a1) = true := decide_eq_true c6
     clear c6
     obtain rfl := Option.some.inj H
     go_wp2
     go_ret
     exact ⟨by first | rfl | (simp; done) | (simp [*]; done), by repeat (first | exact Drawn0.refl _ | apply Drawn0.step)⟩
    ·rw [if_neg c6] at H
     have c6b0 : decide (9218868437227405312 ≤ a1) = false := decide_eq_false c6
     clear c6
     obtain rfl := Option.some.inj H
     go_wp2
     go_ret
     exact ⟨by first | rfl | (simp; done) | (simp [*]; done), by repeat (first | exact Drawn0.refl _ | apply Drawn0.step)⟩
def tidepoleref09_NaN.f (a0 : Int) : Option (Bool) := if a0 ≥ 9223372036854775808 then (some (decide ((IntKind.u64.wrap (a0 - 9223372036854775808)) > 9218868437227405312))) else (some (decide (a0 > 9218868437227405312)))
set_option maxHeartbeats 8000000 in
set_option maxRecDepth 100000 in
theorem tidepoleref09_NaN.calls (a0 : Int) (r : Bool) (w : World) (h : tidepoleref09_NaN.f a0 = some r) :
  Calls Try.prog 134 #[.int .u64 a0] w fun e w' => e = .returned (.bool r) ∧ Drawn0 w w' := by
 have H : (if a0 ≥ 9223372036854775808 then (some (decide ((IntKind.u64.wrap (a0 - 9223372036854775808)) > 9218868437227405312))) else (some (decide (a0 > 9218868437227405312)))) = some r := h
 clear h
 by_cases c2 : a0 ≥ 9223372036854775808
 ·rw [if_pos c2] at H
  have c2b0 : decide (9223372036854775808 ≤ a0) = true := decide_eq_true c2
  clear c2
  obtain rfl := Option.some.inj H
  go_enter Try.func134, Try.ntmps134
  go_wp2
  go_ret
  exact ⟨by first | rfl | (simp; done) | (simp [*]; done), by repeat (first | exact Drawn0.refl _ | apply Drawn0.step)⟩
 ·rw [if_neg c2] at H
  have c2b0 : decide (9223372036854775808 ≤ a0) = false := decide_eq_false c2
  clear c2
  obtain rfl := Option.some.inj H
  go_enter Try.func134, Try.ntmps134
  go_wp2
  go_ret
  exact ⟨by first | rfl | (simp; done) | (simp [*]; done), by repeat (first | exact Drawn0.refl _ | apply Drawn0.step)⟩
mutual
def tidepoleref09_Fits.l0 : Nat → Int → List Int → List Int → Int → Int → Option (Int)
 | 0, _, _, _, _, _ => none
 | k + 1, x2, x3, x4, x11, x12 => if x12 < 2 then (if x12 = 1 then (tidepoleref09_Fits.j1 k x2 x3 x4 x11 x12 x4) else (tidepoleref09_Fits.j1 k x2 x3 x4 x11 x12 x3)) else (if x11 > 0 then ((tidepoleref09_NaN.f x2).bind fun t101 => (if t101 = true then (some 0) else (some 22))) else (some 0))
def tidepoleref09_Fits.j1 : Nat → Int → List Int → List Int → Int → Int → List Int → Option (Int)
 | 0, _, _, _, _, _, _ => none
 | k + 1, x2, x3, x4, x11, x12, x13 => tidepoleref09_Fits.l1 k x2 x3 x4 x11 x12 x13 0
def tidepoleref09_Fits.l1 : Nat → Int → List Int → List Int → Int → Int → List Int → Int → Option (Int)
 | 0, _, _, _, _, _, _, _ => none
 | k + 1, x2, x3, x4, x11, x12, x13, x14 => if x14 < (x13.length : Int) then (if 0 ≤ x14 then (if (rd x13 x14) < 0 then (some 22) else (if (IntKind.u64.wrap (rd x13 x14)) > x11 then (some 22) else (tidepoleref09_Fits.l1 k x2 x3 x4 (IntKind.u64.wrap (x11 - (IntKind.u64.wrap (rd x13 x14)))) x12 x13 (wrap64 (x14 + 1))))) else (none)) else (tidepoleref09_Fits.l0 k x2 x3 x4 x11 (wrap64 (x12 + 1)))
end
def tidepoleref09_Fits.f (k : Nat) (a0 : Int) (a1 : Int) (a2 : Int) (l3 : List Int) (l4 : List Int) : Option (Int) := if a0 > a1 then (some 22) else (tidepoleref09_Fits.l0 k a2 l3 l4 (IntKind.u64.wrap (a1 - a0)) 0)
set_option maxHeartbeats 8000000 in
set_option maxRecDepth 100000 in
theorem tidepoleref09_Fits.calls (k : Nat) (a0 : Int) (a1 : Int) (a2 : Int) (P3_ : Nat → Prop) (A3 : Option Addr) (c3 : Nat) (l3 : List Int) (P4_ : Nat → Prop) (A4 : Option Addr) (c4 : Nat) (l4 : List Int) (r : Int) (w : World) (hs3 : Kd.V (Kd.int .i64) 2 w w.heap.size (fun k_ => P3_ k_) (.slice A3 l3.length c3) l3) (hs4 : Kd.V (Kd.int .i64) 2 w w.heap.size (fun k_ => P4_ k_) (.slice A4 l4.length c4) l4) (h : tidepoleref09_Fits.f k a0 a1 a2 l3 l4 = some r) :
  Calls Try.prog 90 #[.int .u64 a0, .int .u64 a1, .int .u64 a2, .slice A3 l3.length c3, .slice A4 l4.length c4] w fun e w' => e = .returned (.int .i64 r) ∧ Below w.heap.size w w' := by
 have HO3 := Aside0.mk (show Kd.V (Kd.int .i64) 2 w w.heap.size (fun k_ => ((P3_ k_ ∨ P4_ k_) ∨ w.heap.size ≤ k_)) (.slice A3 l3.length c3) l3 from Kd.V_mono hs3 (fun k_ hk => .inl (.inl hk)))
 have HO4 := Aside0.mk (show Kd.V (Kd.int .i64) 2 w w.heap.size (fun k_ => ((P3_ k_ ∨ P4_ k_) ∨ w.heap.size ≤ k_)) (.slice A4 l4.length c4) l4 from Kd.V_mono hs4 (fun k_ hk => .inl (.inr hk)))
 have HB := Aside0.mk (Below.refl w.heap.size w)
 have H : (if a0 > a1 then (some 22) else (tidepoleref09_Fits.l0 k a2 l3 l4 (IntKind.u64.wrap (a1 - a0)) 0)) = some r := h
 clear h
 by_cases c6 : a0 > a1
 ·rw [if_pos c6] at H
  have c6b0 : decide (a1 < a0) = true := decide_eq_true c6
  clear c6
  obtain rfl := Option.some.inj H
  go_enter Try.func90, Try.ntmps90
  go_wp2
  go_ret
  exact ⟨by first | rfl | (simp [errW_none, errW_some] <;> rfl) | (simp [*, errW_none, errW_some] <;> rfl), by repeat (first | (with_reducible first | exact HB.out | apply below_alloc | apply pw_below_drewN | apply below_drew1) | exact HB.out)⟩
 ·rw [if_neg c6] at H
  have c6b0 : decide (a1 < a0) = false := decide_eq_false c6
  clear c6
  have H' := Aside0.mk H
  clear H
  go_enter Try.func90, Try.ntmps90
  go_wp2
  go_loopg [11, 12] k (fun kq v11 v12 w' => ∃ (x11_1 : Int) (x12_1 : Int), v11 = .int .u64 x11_1 ∧ v12 = .int .i64 x12_1 ∧ Aside0 (tidepoleref09_Fits.l0 kq a2 l3 l4 x11_1 x12_1 = some r) ∧ Aside0 (kq ≤ k) ∧ Aside0 (Kd.V (Kd.int .i64) 2 w' w.heap.size (fun k_ => ((P3_ k_ ∨ P4_ k_) ∨ w.heap.size ≤ k_)) (.slice A3 l3.length c3) l3) ∧ Aside0 (Kd.V (Kd.int .i64) 2 w' w.heap.size (fun k_ => ((P3_ k_ ∨ P4_ k_) ∨ w.heap.size ≤ k_)) (.slice A4 l4.length c4) l4) ∧ Aside0 (Below w.heap.size w w'))
  case atStart => exact ⟨(IntKind.u64.wrap (a1 - a0)), (0), (by first | rfl | (simp; done) | (simp [*]; done)), (by first | rfl | (simp; done) | (simp [*]; done)), H', ⟨Nat.le_refl _⟩, ⟨by (with_reducible repeat (first | apply Kd.V_alloc | apply Kd.V_drewN | apply Kd.V_drew)); exact HO3.out⟩, ⟨by (with_reducible repeat (first | apply Kd.V_alloc | apply Kd.V_drewN | apply Kd.V_drew)); exact HO4.out⟩, ⟨by repeat (first | (with_reducible first | exact HB.out | apply below_alloc | apply pw_below_drewN | apply below_drew1) | exact HB.out)⟩⟩
  case round =>
   clear H'
   try clear p2
   try clear c3
   try clear c4
   try clear c6
   try clear c6b0
   obtain ⟨x11_1, x12_1, rfl, rfl, HA, HK1, HO_3, HO_4, HB⟩ := hrel
   cases gk with
   | zero => exact absurd HA.out (by simp [tidepoleref09_Fits.l0])
   | succ k1 =>
    have H := HA.out
    clear HA
    simp only [tidepoleref09_Fits.l0] at H
    by_cases c7 : x12_1 < 2
    ·rw [if_pos c7] at H
     have c7b0 : decide (x12_1 < 2) = true := decide_eq_true c7
     clear c7
     have HC8 := Aside0.mk H
     clear H
     go_upto_if 27 with (fail)
     go_cut [13] (fun v13 wc => ∃ (kq : Nat) (x13_7 : List Int), Aside0 (tidepoleref09_Fits.j1 kq a2 l3 l4 x11_1 x12_1 x13_7 = some r) ∧ Aside0 (kq ≤ k1) ∧ Aside0 (Kd.V (Kd.int .i64) 2 wc w.heap.size (fun k_ => ((P3_ k_ ∨ P4_ k_) ∨ w.heap.size ≤ k_)) (.slice A3 l3.length c3) l3) ∧ Aside0 (Kd.V (Kd.int .i64) 2 wc w.heap.size (fun k_ => ((P3_ k_ ∨ P4_ k_) ∨ w.heap.size ≤ k_)) (.slice A4 l4.length c4) l4) ∧ Aside0 (Kd.V (Kd.int .i64) 2 wc w.heap.size (fun k_ => ((P3_ k_ ∨ P4_ k_) ∨ w.heap.size ≤ k_)) v13 x13_7) ∧ Aside0 (Below w.heap.size w wc))
     case first =>
      have H := HC8.out
      clear HC8
      by_cases c9 : x12_1 = 1
      ·rw [if_pos c9] at H
       have c9b0 : (x12_1 == 1) = true := beq_iff_eq.mpr c9
       have c9b1 : (x12_1 != 1) = false := bne_eq_false_iff_eq.mpr c9
       clear c9
       (first | rw [c9b0] | (simp only [i64_w, i32_w]; rw [c9b0]) | skip)
       have H' := Aside0.mk H
       clear H
       go_wp2
       go_meet
       case rel => exact ⟨_, (l4), H', ⟨by have := HK1.out; first | omega | exact Nat.le_refl _⟩, ⟨by (with_reducible repeat (first | apply Kd.V_alloc | apply Kd.V_drewN | apply Kd.V_drew)); exact HO_3.out⟩, ⟨by (with_reducible repeat (first | apply Kd.V_alloc | apply Kd.V_drewN | apply Kd.V_drew)); exact HO_4.out⟩, ⟨by (with_reducible repeat (first | apply Kd.V_alloc | apply Kd.V_drewN | apply Kd.V_drew)); exact HO_4.out⟩, ⟨by repeat (first | (with_reducible first | exact HB.out | apply below_alloc | apply pw_below_drewN | apply below_drew1) | exact HB.out)⟩⟩
      ·rw [if_neg c9] at H
       have c9b0 : (x12_1 == 1) = false := beq_eq_false_iff_ne.mpr c9
       have c9b1 : (x12_1 != 1) = true := bne_iff_ne.mpr c9
       (first | rw [c9b0] | (simp only [i64_w, i32_w]; rw [c9b0]) | skip)
       have H' := Aside0.mk H
       clear H
       go_wp2
       go_meet
       case rel => exact ⟨_, (l3), H', ⟨by have := HK1.out; first | omega | exact Nat.le_refl _⟩, ⟨by (with_reducible repeat (first | apply Kd.V_alloc | apply Kd.V_drewN | apply Kd.V_drew)); exact HO_3.out⟩, ⟨by (with_reducible repeat (first | apply Kd.V_alloc | apply Kd.V_drewN | apply Kd.V_drew)); exact HO_4.out⟩, ⟨by (with_reducible repeat (first | apply Kd.V_alloc | apply Kd.V_drewN | apply Kd.V_drew)); exact HO_3.out⟩, ⟨by repeat (first | (with_reducible first | exact HB.out | apply below_alloc | apply pw_below_drewN | apply below_drew1) | exact HB.out)⟩⟩
     case rest =>
      clear HC8
      try clear p2
      try clear c3
      try clear c4
      try clear c6
      try clear c6b0
      try clear c7
      try clear c7b0
      try clear c9
      try clear c9b0
      try clear c9b1
      try clear p2
      obtain ⟨kq, x13_7, HA, HJ7, HO_3, HO_4, HO_13, HB⟩ := hcut
      cases kq with
      | zero => exact absurd HA.out (by simp [tidepoleref09_Fits.j1])
      | succ kj7 =>
       have H := HA.out
       clear HA
       simp only [tidepoleref09_Fits.j1] at H
       have H' := Aside0.mk H
       clear H
       go_wp2
       go_loopg [11, 14] kj7 (fun kq v11 v14 w' => ∃ (x11_3 : Int) (x14_3 : Int), v11 = .int .u64 x11_3 ∧ v14 = .int .i64 x14_3 ∧ Aside0 (tidepoleref09_Fits.l1 kq a2 l3 l4 x11_3 x12_1 x13_7 x14_3 = some r) ∧ Aside0 (kq ≤ kj7) ∧ Aside0 (Kd.V (Kd.int .i64) 2 w' w.heap.size (fun k_ => ((P3_ k_ ∨ P4_ k_) ∨ w.heap.size ≤ k_)) (.slice A3 l3.length c3) l3) ∧ Aside0 (Kd.V (Kd.int .i64) 2 w' w.heap.size (fun k_ => ((P3_ k_ ∨ P4_ k_) ∨ w.heap.size ≤ k_)) (.slice A4 l4.length c4) l4) ∧ Aside0 (Kd.V (Kd.int .i64) 2 w' w.heap.size (fun k_ => ((P3_ k_ ∨ P4_ k_) ∨ w.heap.size ≤ k_)) u13 x13_7) ∧ Aside0 (Below w.heap.size w w'))
       case atStart => exact ⟨(x11_1), (0), (by first | rfl | (simp; done) | (simp [*]; done)), (by first | rfl | (simp; done) | (simp [*]; done)), H', ⟨Nat.le_refl _⟩, ⟨by (with_reducible repeat (first | apply Kd.V_alloc | apply Kd.V_drewN | apply Kd.V_drew)); exact HO_3.out⟩, ⟨by (with_reducible repeat (first | apply Kd.V_alloc | apply Kd.V_drewN | apply Kd.V_drew)); exact HO_4.out⟩, ⟨by (with_reducible repeat (first | apply Kd.V_alloc | apply Kd.V_drewN | apply Kd.V_drew)); exact HO_13.out⟩, ⟨by repeat (first | (with_reducible first | exact HB.out | apply below_alloc | apply pw_below_drewN | apply below_drew1) | exact HB.out)⟩⟩
       case round =>
        clear H'
        try clear p2
        try clear c3
        try clear c4
        try clear c6
        try clear c6b0
        try clear c7
        try clear c7b0
        try clear c9
        try clear c9b0
        try clear c9b1
        try clear p2
        obtain ⟨x11_3, x14_3, rfl, rfl, HA, HK3, HO_3, HO_4, HO_13, HB⟩ := hrel
        cases gk with
        | zero => exact absurd HA.out (by simp [tidepoleref09_Fits.l1])
        | succ k3 =>
         have H := HA.out
         clear HA
         simp only [tidepoleref09_Fits.l1] at H
         by_cases c10 : x14_3 < (x13_7.length : Int)
         ·rw [if_pos c10] at H
          have c10b0 : decide (x14_3 < (x13_7.length : Int)) = true := decide_eq_true c10
          clear c10
          by_cases c11 : 0 ≤ x14_3
          ·rw [if_pos c11] at H
           have c11b0 : decide (0 ≤ x14_3) = true := decide_eq_true c11
           clear c11
           by_cases c12 : (rd x13_7 x14_3) < 0
           ·rw [if_pos c12] at H
            have c12b0 : decide ((rd x13_7 x14_3) < 0) = true := decide_eq_true c12
            clear c12
            obtain rfl := Option.some.inj H
            obtain ⟨Ao13, co13, eo13⟩ := Kd.V_slice HO_13.out
            subst eo13
            have p102 : 0 ≤ (x14_3 : Int) := of_decide_eq_true (by first | (with_reducible assumption) | assumption)
            have q102 : x14_3 < (x13_7.length : Int) := of_decide_eq_true (by first | (with_reducible assumption) | assumption)
            obtain ⟨ad102, e102, hx102_0⟩ := Kd.at_int (Kd.V_reads' HO_13.out).2.2 x14_3 p102 q102
            cases e102
            replace p102 := eq_true p102
            replace q102 := eq_true q102
            go_wp2
            go_ret
            exact ⟨by first | rfl | (simp [errW_none, errW_some] <;> rfl) | (simp [*, errW_none, errW_some] <;> rfl), by repeat (first | (with_reducible first | exact HB.out | apply below_alloc | apply pw_below_drewN | apply below_drew1) | exact HB.out)⟩
           ·rw [if_neg c12] at H
            have c12b0 : decide ((rd x13_7 x14_3) < 0) = false := decide_eq_false c12
            clear c12
            by_cases c14 : (IntKind.u64.wrap (rd x13_7 x14_3)) > x11_3
            ·rw [if_pos c14] at H
             have c14b0 : decide (x11_3 < (IntKind.u64.wrap (rd x13_7 x14_3))) = true := decide_eq_true c14
             clear c14
             obtain rfl := Option.some.inj H
             obtain ⟨Ao15, co15, eo15⟩ := Kd.V_slice HO_13.out
             subst eo15
             have p102 : 0 ≤ (x14_3 : Int) := of_decide_eq_true (by first | (with_reducible assumption) | assumption)
             have q102 : x14_3 < (x13_7.length : Int) := of_decide_eq_true (by first | (with_reducible assumption) | assumption)
             obtain ⟨ad102, e102, hx102_0⟩ := Kd.at_int (Kd.V_reads' HO_13.out).2.2 x14_3 p102 q102
             cases e102
             replace p102 := eq_true p102
             replace q102 := eq_true q102
             have p103 : 0 ≤ (x14_3 : Int) := of_decide_eq_true (by first | (with_reducible assumption) | assumption)
             have q103 : x14_3 < (x13_7.length : Int) := of_decide_eq_true (by first | (with_reducible assumption) | assumption)
             obtain ⟨ad103, e103, hx103_0⟩ := Kd.at_int (Kd.V_reads' HO_13.out).2.2 x14_3 p103 q103
             obtain rfl : ad102 = ad103 := (by injection e103)
             replace p103 := eq_true p103
             replace q103 := eq_true q103
             go_wp2
             go_ret
             exact ⟨by first | rfl | (simp [errW_none, errW_some] <;> rfl) | (simp [*, errW_none, errW_some] <;> rfl), by repeat (first | (with_reducible first | exact HB.out | apply below_alloc | apply pw_below_drewN | apply below_drew1) | exact HB.out)⟩
            ·rw [if_neg c14] at H
             have c14b0 : decide (x11_3 < (IntKind.u64.wrap (rd x13_7 x14_3))) = false := decide_eq_false c14
             clear c14
             have H' := Aside0.mk H
             clear H
             obtain ⟨Ao16, co16, eo16⟩ := Kd.V_slice HO_13.out
             subst eo16
             have p102 : 0 ≤ (x14_3 : Int) := of_decide_eq_true (by first | (with_reducible assumption) | assumption)
             have q102 : x14_3 < (x13_7.length : Int) := of_decide_eq_true (by first | (with_reducible assumption) | assumption)
             obtain ⟨ad102, e102, hx102_0⟩ := Kd.at_int (Kd.V_reads' HO_13.out).2.2 x14_3 p102 q102
             cases e102
             replace p102 := eq_true p102
             replace q102 := eq_true q102
             have p103 : 0 ≤ (x14_3 : Int) := of_decide_eq_true (by first | (with_reducible assumption) | assumption)
             have q103 : x14_3 < (x13_7.length : Int) := of_decide_eq_true (by first | (with_reducible assumption) | assumption)
             obtain ⟨ad103, e103, hx103_0⟩ := Kd.at_int (Kd.V_reads' HO_13.out).2.2 x14_3 p103 q103
             obtain rfl : ad102 = ad103 := (by injection e103)
             replace p103 := eq_true p103
             replace q103 := eq_true q103
             have p104 : 0 ≤ (x14_3 : Int) := of_decide_eq_true (by first | (with_reducible assumption) | assumption)
             have q104 : x14_3 < (x13_7.length : Int) := of_decide_eq_true (by first | (with_reducible assumption) | assumption)
             obtain ⟨ad104, e104, hx104_0⟩ := Kd.at_int (Kd.V_reads' HO_13.out).2.2 x14_3 p104 q104
             obtain rfl : ad102 = ad104 := (by injection e104)
             replace p104 := eq_true p104
             replace q104 := eq_true q104
             go_wp2
             go_roundg k3
             case measure => have := HK1.out; have := HJ7.out; have := HK3.out; omega
             case rel => exact ⟨(IntKind.u64.wrap (x11_3 - (IntKind.u64.wrap (rd x13_7 x14_3)))), (wrap64 (x14_3 + 1)), (by first | rfl | (simp; done) | (simp [*]; done)), (by first | rfl | (simp; done) | (simp [*]; done)), H', ⟨by have := HK1.out; have := HJ7.out; have := HK3.out; omega⟩, ⟨by (with_reducible repeat (first | apply Kd.V_alloc | apply Kd.V_drewN | apply Kd.V_drew)); exact HO_3.out⟩, ⟨by (with_reducible repeat (first | apply Kd.V_alloc | apply Kd.V_drewN | apply Kd.V_drew)); exact HO_4.out⟩, ⟨by (with_reducible repeat (first | apply Kd.V_alloc | apply Kd.V_drewN | apply Kd.V_drew)); exact HO_13.out⟩, ⟨by repeat (first | (with_reducible first | exact HB.out | apply below_alloc | apply pw_below_drewN | apply below_drew1) | exact HB.out)⟩⟩
          ·rw [if_neg c11] at H
           exact absurd H (by simp)
         ·rw [if_neg c10] at H
          have c10b0 : decide (x14_3 < (x13_7.length : Int)) = false := decide_eq_false c10
          clear c10
          have H' := Aside0.mk H
          clear H
          obtain ⟨Ao17, co17, eo17⟩ := Kd.V_slice HO_13.out
          subst eo17
          go_wp2
          go_roundg k3
          case measure => have := HK1.out; have := HJ7.out; have := HK3.out; omega
          case rel => exact ⟨(x11_3), (wrap64 (x12_1 + 1)), (by first | rfl | (simp; done) | (simp [*]; done)), (by first | rfl | (simp; done) | (simp [*]; done)), H', ⟨by have := HK1.out; have := HJ7.out; have := HK3.out; omega⟩, ⟨by (with_reducible repeat (first | apply Kd.V_alloc | apply Kd.V_drewN | apply Kd.V_drew)); exact HO_3.out⟩, ⟨by (with_reducible repeat (first | apply Kd.V_alloc | apply Kd.V_drewN | apply Kd.V_drew)); exact HO_4.out⟩, ⟨by repeat (first | (with_reducible first | exact HB.out | apply below_alloc | apply pw_below_drewN | apply below_drew1) | exact HB.out)⟩⟩
    ·rw [if_neg c7] at H
     have c7b0 : decide (x12_1 < 2) = false := decide_eq_false c7
     clear c7
     by_cases c18 : x11_1 > 0
     ·rw [if_pos c18] at H
      have c18b0 : decide (0 < x11_1) = true := decide_eq_true c18
      clear c18
      replace H := Option.bind_eq_some_iff.mp H
      obtain ⟨t101, A190, H⟩ := H
      replace H : (if t101 = true then (some 0) else (some 22)) = some r := H
      have A19 := Aside0.mk A190
      clear A190
      by_cases c20 : t101 = true
      ·subst c20
       have H1 : (some 0) = some r := by rw [if_pos rfl] at H; exact H
       clear H
       have H := H1
       clear H1
       obtain rfl := Option.some.inj H
       go_wp2_with (first | (go_at_call 134; (with_reducible refine (tidepoleref09_NaN.calls a2 true _ A19.out).mono ?_); rintro e w' ⟨rfl, ⟨nd, rfl⟩⟩; clear A19))
       go_ret
       exact ⟨by first | rfl | (simp [errW_none, errW_some] <;> rfl) | (simp [*, errW_none, errW_some] <;> rfl), by repeat (first | (with_reducible first | exact HB.out | apply below_alloc | apply pw_below_drewN | apply below_drew1) | exact HB.out)⟩
      ·replace c20 := Bool.eq_false_iff.mpr c20
       subst c20
       have H1 : (some 22) = some r := by rw [if_neg (show ¬ (false = true) by decide)] at H; exact H
       clear H
       have H := H1
       clear H1
       obtain rfl := Option.some.inj H
       go_wp2_with (first | (go_at_call 134; (with_reducible refine (tidepoleref09_NaN.calls a2 false _ A19.out).mono ?_); rintro e w' ⟨rfl, ⟨nd, rfl⟩⟩; clear A19))
       go_ret
       exact ⟨by first | rfl | (simp [errW_none, errW_some] <;> rfl) | (simp [*, errW_none, errW_some] <;> rfl), by repeat (first | (with_reducible first | exact HB.out | apply below_alloc | apply pw_below_drewN | apply below_drew1) | exact HB.out)⟩
     ·rw [if_neg c18] at H
      have c18b0 : decide (0 < x11_1) = false := decide_eq_false c18
      clear c18
      obtain rfl := Option.some.inj H
      go_wp2
      go_ret
      exact ⟨by first | rfl | (simp [errW_none, errW_some] <;> rfl) | (simp [*, errW_none, errW_some] <;> rfl), by repeat (first | (with_reducible first | exact HB.out | apply below_alloc | apply pw_below_drewN | apply below_drew1) | exact HB.out)⟩
def tidepoleref09_Check.f (k : Nat) (a0_0 : Int) (a0_1 : Int) (a0_2 : Int) (a0_3 : Int) (a0_4 : Int) (l0_5 : List (S144)) (l0_6 : List (S144)) (l0_7 : List Int) (l0_8 : List Int) : Option (Int) := (tidepoleref09_Head.f k a0_0 a0_1).bind fun t102 => (if t102 = 0 then ((tidepoleref09_Side.f k l0_5 l0_7).bind fun bt103 => (if bt103.2.2 = 0 then ((tidepoleref09_Side.f k l0_6 l0_8).bind fun bt110 => (if bt110.2.2 = 0 then ((tidepoleref09_Fits.f k a0_2 a0_3 a0_4 bt103.2.1 bt110.2.1).bind fun t117 => (some t117)) else (some bt110.2.2))) else (some bt103.2.2))) else (some t102))
set_option maxHeartbeats 8000000 in
set_option maxRecDepth 100000 in
theorem tidepoleref09_Check.calls (k : Nat) (a0_0 : Int) (a0_1 : Int) (a0_2 : Int) (a0_3 : Int) (a0_4 : Int) (A0_5 : Option Addr) (c0_5 : Nat) (l0_5 : List (S144)) (A0_6 : Option Addr) (c0_6 : Nat) (l0_6 : List (S144)) (A0_7 : Option Addr) (c0_7 : Nat) (l0_7 : List Int) (A0_8 : Option Addr) (c0_8 : Nat) (l0_8 : List Int) (r : Int) (w : World) (hr0_5 : Kd.C k144 w A0_5 l0_5.length l0_5) (hc0_5 : l0_5.length ≤ c0_5) (hr0_6 : Kd.C k144 w A0_6 l0_6.length l0_6) (hc0_6 : l0_6.length ≤ c0_6) (hr0_7 : Kd.C (Kd.int .i64) w A0_7 l0_7.length l0_7) (hc0_7 : l0_7.length ≤ c0_7) (hr0_8 : Kd.C (Kd.int .i64) w A0_8 l0_8.length l0_8) (hc0_8 : l0_8.length ≤ c0_8) (h : tidepoleref09_Check.f k a0_0 a0_1 a0_2 a0_3 a0_4 l0_5 l0_6 l0_7 l0_8 = some r) :
  Calls Try.prog 28 #[.agg #[.int .i64 a0_0, .int .u64 a0_1, .int .u64 a0_2, .int .u64 a0_3, .int .u64 a0_4, .slice A0_5 l0_5.length c0_5, .slice A0_6 l0_6.length c0_6, .slice A0_7 l0_7.length c0_7, .slice A0_8 l0_8.length c0_8]] w fun e w' => e = .returned (.int .i64 r) ∧ Below w.heap.size w w' := by
 have hu55 := Try.underlying55
 have HR0_5 := Aside0.mk hr0_5
 have HC0_5 := Aside0.mk hc0_5
 clear hr0_5 hc0_5
 have HR0_6 := Aside0.mk hr0_6
 have HC0_6 := Aside0.mk hc0_6
 clear hr0_6 hc0_6
 have HR0_7 := Aside0.mk hr0_7
 have HC0_7 := Aside0.mk hc0_7
 clear hr0_7 hc0_7
 have HR0_8 := Aside0.mk hr0_8
 have HC0_8 := Aside0.mk hc0_8
 clear hr0_8 hc0_8
 have HB := Aside0.mk (Below.refl w.heap.size w)
 have H : ((tidepoleref09_Head.f k a0_0 a0_1).bind fun t102 => (if t102 = 0 then ((tidepoleref09_Side.f k l0_5 l0_7).bind fun bt103 => (if bt103.2.2 = 0 then ((tidepoleref09_Side.f k l0_6 l0_8).bind fun bt110 => (if bt110.2.2 = 0 then ((tidepoleref09_Fits.f k a0_2 a0_3 a0_4 bt103.2.1 bt110.2.1).bind fun t117 => (some t117)) else (some bt110.2.2))) else (some bt103.2.2))) else (some t102))) = some r := h
 clear h
 replace H := Option.bind_eq_some_iff.mp H
 obtain ⟨t102, A20, H⟩ := H
 replace H : (if t102 = 0 then ((tidepoleref09_Side.f k l0_5 l0_7).bind fun bt103 => (if bt103.2.2 = 0 then ((tidepoleref09_Side.f k l0_6 l0_8).bind fun bt110 => (if bt110.2.2 = 0 then ((tidepoleref09_Fits.f k a0_2 a0_3 a0_4 bt103.2.1 bt110.2.1).bind fun t117 => (some t117)) else (some bt110.2.2))) else (some bt103.2.2))) else (some t102)) = some r := H
 have A2 := Aside0.mk A20
 clear A20
 by_cases c3 : t102 = 0
 ·rw [if_pos c3] at H
  have c3b0 : (t102 == 0) = true := beq_iff_eq.mpr c3
  have c3b1 : (t102 != 0) = false := bne_eq_false_iff_eq.mpr c3
  clear c3
  replace H := Option.bind_eq_some_iff.mp H
  obtain ⟨⟨t103, t104, t105⟩, A40, H⟩ := H
  replace H : (if t105 = 0 then ((tidepoleref09_Side.f k l0_6 l0_8).bind fun bt110 => (if bt110.2.2 = 0 then ((tidepoleref09_Fits.f k a0_2 a0_3 a0_4 t104 bt110.2.1).bind fun t117 => (some t117)) else (some bt110.2.2))) else (some t105)) = some r := H
  have A4 := Aside0.mk A40
  clear A40
  by_cases c5 : t105 = 0
  ·rw [if_pos c5] at H
   have c5b0 : (t105 == 0) = true := beq_iff_eq.mpr c5
   have c5b1 : (t105 != 0) = false := bne_eq_false_iff_eq.mpr c5
   clear c5
   replace H := Option.bind_eq_some_iff.mp H
   obtain ⟨⟨t110, t111, t112⟩, A60, H⟩ := H
   replace H : (if t112 = 0 then ((tidepoleref09_Fits.f k a0_2 a0_3 a0_4 t104 t111).bind fun t117 => (some t117)) else (some t112)) = some r := H
   have A6 := Aside0.mk A60
   clear A60
   by_cases c7 : t112 = 0
   ·rw [if_pos c7] at H
    have c7b0 : (t112 == 0) = true := beq_iff_eq.mpr c7
    have c7b1 : (t112 != 0) = false := bne_eq_false_iff_eq.mpr c7
    clear c7
    replace H := Option.bind_eq_some_iff.mp H
    obtain ⟨t117, A80, H⟩ := H
    replace H : (some t117) = some r := H
    have A8 := Aside0.mk A80
    clear A80
    obtain rfl := Option.some.inj H
    go_enter Try.func28, Try.ntmps28
    go_wp2_with (first | ((with_reducible refine gate_dst (N := 1) rfl ?_); refine box_event ?hg (N := 1) ?hd (cs := #[.int .i64 a0_0, .int .u64 a0_1, .int .u64 a0_2, .int .u64 a0_3, .int .u64 a0_4, .slice A0_5 l0_5.length c0_5, .slice A0_6 l0_6.length c0_6, .slice A0_7 l0_7.length c0_7, .slice A0_8 l0_8.length c0_8]) (t := 55) ?hr ?_; (case hd => rfl); (case hg => rfl); (case hr => first | (go_simp; done) | (go_simp; rfl)); intro gb101 hg w9 hbox hb; have n0_ := Aside0.mk (below_step (by repeat (first | (with_reducible first | exact HB.out | apply below_alloc | apply pw_below_drewN | apply below_drew1) | exact HB.out)) hb); have n1_ := Aside0.mk (hbox); have n2_ := Aside0.mk ((by rw [hg]; exact (below_size (by repeat (first | (with_reducible first | exact HB.out | apply below_alloc | apply pw_below_drewN | apply below_drew1) | exact HB.out))) : w.heap.size ≤ gb101)); have n3_ := Aside0.mk ((by rw [hg]; exact (below_size (by repeat (first | (with_reducible first | exact HB.out | apply below_alloc | apply pw_below_drewN | apply below_drew1) | exact HB.out))) : w.heap.size ≤ gb101)); clear HB; have HB := n0_; have BK101 := n1_; have GW101 := n2_; have GE101 := n3_; clear n0_ n1_ n2_ n3_; clear hb hbox hg; have hcz10_0 : w9.cell? ⟨gb101, 0, none⟩ = some (.int .i64 a0_0) := (blk_cell BK101.out 0).trans rfl; have hcz10_1 : w9.cell? ⟨gb101, 1, none⟩ = some (.int .u64 a0_1) := (blk_cell BK101.out 1).trans rfl; have hcz10_2 : w9.cell? ⟨gb101, 2, none⟩ = some (.int .u64 a0_2) := (blk_cell BK101.out 2).trans rfl; have hcz10_3 : w9.cell? ⟨gb101, 3, none⟩ = some (.int .u64 a0_3) := (blk_cell BK101.out 3).trans rfl; have hcz10_4 : w9.cell? ⟨gb101, 4, none⟩ = some (.int .u64 a0_4) := (blk_cell BK101.out 4).trans rfl; have hcz10_5 : w9.cell? ⟨gb101, 5, none⟩ = some (.slice A0_5 l0_5.length c0_5) := (blk_cell BK101.out 5).trans rfl; have hcz10_6 : w9.cell? ⟨gb101, 6, none⟩ = some (.slice A0_6 l0_6.length c0_6) := (blk_cell BK101.out 6).trans rfl; have hcz10_7 : w9.cell? ⟨gb101, 7, none⟩ = some (.slice A0_7 l0_7.length c0_7) := (blk_cell BK101.out 7).trans rfl; have hcz10_8 : w9.cell? ⟨gb101, 8, none⟩ = some (.slice A0_8 l0_8.length c0_8) := (blk_cell BK101.out 8).trans rfl; have hfz10_0 := blk_frozen BK101.out 0; have hfz10_1 := blk_frozen BK101.out 1; have hfz10_2 := blk_frozen BK101.out 2; have hfz10_3 := blk_frozen BK101.out 3; have hfz10_4 := blk_frozen BK101.out 4; have hfz10_5 := blk_frozen BK101.out 5; have hfz10_6 := blk_frozen BK101.out 6; have hfz10_7 := blk_frozen BK101.out 7; have hfz10_8 := blk_frozen BK101.out 8) | ((with_reducible refine gate_callee (f := 89) rfl ?_); refine goesL_ (some 14) rfl rfl Try.func89 (by kernel_rfl) rfl #[.int .i64 a0_0, .int .u64 a0_1] rfl (by (try simp only [List.map_toArray, List.map_cons, List.map_nil]); first | done | rfl | (simp only [List.length_drop, List.length_take]; rfl)) ?_; (with_reducible refine (tidepoleref09_Head.calls k a0_0 a0_1 t102 _ A2.out).mono ?_); rintro e w' ⟨rfl, ⟨nd, rfl⟩⟩; refine ⟨_, rfl, ?_⟩; clear A2) | ((with_reducible refine gate_callee (f := 30) rfl ?_); refine goesL_ (some 23) rfl rfl Try.func30 (by kernel_rfl) rfl #[.slice A0_5 l0_5.length c0_5, .slice A0_7 l0_7.length c0_7] rfl (by (try simp only [List.map_toArray, List.map_cons, List.map_nil]); first | done | rfl | (simp only [List.length_drop, List.length_take]; rfl)) ?_; (with_reducible refine (tidepoleref09_Side.calls k _ _ l0_5 _ _ l0_7 t103 t104 t105 _ ?side1 ?side2 ?side3 ?side4 A4.out).mono ?_); (case side1 => repeat (first | exact (Kd.C_below HR0_5.out (by repeat (first | (with_reducible first | exact HB.out | apply below_alloc | apply pw_below_drewN | apply below_drew1 | refine below_set ?_ GE101.out) | exact HB.out))) | (with_reducible refine Kd.C_alloc ?_ _) | (with_reducible refine Kd.C_drewN ?_ _) | (with_reducible refine Kd.C_drew ?_))); (case side2 => exact HC0_5.out); (case side3 => repeat (first | exact (Kd.C_below HR0_7.out (by repeat (first | (with_reducible first | exact HB.out | apply below_alloc | apply pw_below_drewN | apply below_drew1 | refine below_set ?_ GE101.out) | exact HB.out))) | (with_reducible refine Kd.C_alloc ?_ _) | (with_reducible refine Kd.C_drewN ?_ _) | (with_reducible refine Kd.C_drew ?_))); (case side4 => exact HC0_7.out); rintro e w11 ⟨v106, v108, rfl, ho0, ho1, hb⟩; refine ⟨_, rfl, ?_⟩; have n0_ := Aside0.mk (Kd.R_lower ho0 (below_size (by repeat (first | (with_reducible first | exact HB.out | apply below_alloc | apply pw_below_drewN | apply below_drew1 | refine below_set ?_ GE101.out) | exact HB.out)))); have n1_ := Aside0.mk (Kd.R_lower ho1 (below_size (by repeat (first | (with_reducible first | exact HB.out | apply below_alloc | apply pw_below_drewN | apply below_drew1 | refine below_set ?_ GE101.out) | exact HB.out)))); have n2_ := Aside0.mk (blk_below (g := gb101) (o := .cells #[.int .i64 a0_0, .int .u64 a0_1, .int .u64 a0_2, .int .u64 a0_3, .int .u64 a0_4, .slice A0_5 l0_5.length c0_5, .slice A0_6 l0_6.length c0_6, .slice A0_7 l0_7.length c0_7, .slice A0_8 l0_8.length c0_8] 55 (0, 0)) (by (with_reducible repeat (first | refine blk_drewN ?_ _ | refine blk_drew ?_ | refine blk_alloc ?_ _)); exact BK101.out) hb); have n3_ := Aside0.mk (below_step (by repeat (first | (with_reducible first | exact HB.out | apply below_alloc | apply pw_below_drewN | apply below_drew1 | refine below_set ?_ GE101.out) | exact HB.out)) hb); clear BK101; clear HB; have HO107 := n0_; have HO109 := n1_; have BK101 := n2_; have HB := n3_; clear n0_ n1_ n2_ n3_; (try clear hb); (try clear hb2); (try clear hk); (try clear hi); (try clear ho0); (try clear ho1); clear A4; have hcz12_0 : w11.cell? ⟨gb101, 0, none⟩ = some (.int .i64 a0_0) := (blk_cell BK101.out 0).trans rfl; have hcz12_1 : w11.cell? ⟨gb101, 1, none⟩ = some (.int .u64 a0_1) := (blk_cell BK101.out 1).trans rfl; have hcz12_2 : w11.cell? ⟨gb101, 2, none⟩ = some (.int .u64 a0_2) := (blk_cell BK101.out 2).trans rfl; have hcz12_3 : w11.cell? ⟨gb101, 3, none⟩ = some (.int .u64 a0_3) := (blk_cell BK101.out 3).trans rfl; have hcz12_4 : w11.cell? ⟨gb101, 4, none⟩ = some (.int .u64 a0_4) := (blk_cell BK101.out 4).trans rfl; have hcz12_5 : w11.cell? ⟨gb101, 5, none⟩ = some (.slice A0_5 l0_5.length c0_5) := (blk_cell BK101.out 5).trans rfl; have hcz12_6 : w11.cell? ⟨gb101, 6, none⟩ = some (.slice A0_6 l0_6.length c0_6) := (blk_cell BK101.out 6).trans rfl; have hcz12_7 : w11.cell? ⟨gb101, 7, none⟩ = some (.slice A0_7 l0_7.length c0_7) := (blk_cell BK101.out 7).trans rfl; have hcz12_8 : w11.cell? ⟨gb101, 8, none⟩ = some (.slice A0_8 l0_8.length c0_8) := (blk_cell BK101.out 8).trans rfl; have hfz12_0 := blk_frozen BK101.out 0; have hfz12_1 := blk_frozen BK101.out 1; have hfz12_2 := blk_frozen BK101.out 2; have hfz12_3 := blk_frozen BK101.out 3; have hfz12_4 := blk_frozen BK101.out 4; have hfz12_5 := blk_frozen BK101.out 5; have hfz12_6 := blk_frozen BK101.out 6; have hfz12_7 := blk_frozen BK101.out 7; have hfz12_8 := blk_frozen BK101.out 8) | ((with_reducible refine gate_callee (f := 30) rfl ?_); refine goesL_ (some 35) rfl rfl Try.func30 (by kernel_rfl) rfl #[.slice A0_6 l0_6.length c0_6, .slice A0_8 l0_8.length c0_8] rfl (by (try simp only [List.map_toArray, List.map_cons, List.map_nil]); first | done | rfl | (simp only [List.length_drop, List.length_take]; rfl)) ?_; (with_reducible refine (tidepoleref09_Side.calls k _ _ l0_6 _ _ l0_8 t110 t111 t112 _ ?side1 ?side2 ?side3 ?side4 A6.out).mono ?_); (case side1 => repeat (first | exact (Kd.C_below HR0_6.out HB.out) | (with_reducible refine Kd.C_alloc ?_ _) | (with_reducible refine Kd.C_drewN ?_ _) | (with_reducible refine Kd.C_drew ?_))); (case side2 => exact HC0_6.out); (case side3 => repeat (first | exact (Kd.C_below HR0_8.out HB.out) | (with_reducible refine Kd.C_alloc ?_ _) | (with_reducible refine Kd.C_drewN ?_ _) | (with_reducible refine Kd.C_drew ?_))); (case side4 => exact HC0_8.out); rintro e w13 ⟨v113, v115, rfl, ho0, ho1, hb⟩; refine ⟨_, rfl, ?_⟩; have n0_ := Aside0.mk (Kd.R_elder' (by (with_reducible repeat (first | apply Kd.R_alloc | apply Kd.R_drewN | apply Kd.R_drew)); exact HO107.out) (Kd.R_base ho0) hb); have n1_ := Aside0.mk (Kd.R_elder' (by (with_reducible repeat (first | apply Kd.R_alloc | apply Kd.R_drewN | apply Kd.R_drew)); exact HO109.out) (Kd.R_base ho1) hb); have n2_ := Aside0.mk (Kd.R_lower (Kd.R_new' ho0 (Kd.R_lt (by (with_reducible repeat (first | apply Kd.R_alloc | apply Kd.R_drewN | apply Kd.R_drew)); exact HO107.out))) (below_size (by repeat (first | (with_reducible first | exact HB.out | apply below_alloc | apply pw_below_drewN | apply below_drew1 | refine below_set ?_ GE101.out) | exact HB.out)))); have n3_ := Aside0.mk (Kd.R_lower (Kd.R_new' ho1 (Kd.R_lt (by (with_reducible repeat (first | apply Kd.R_alloc | apply Kd.R_drewN | apply Kd.R_drew)); exact HO109.out))) (below_size (by repeat (first | (with_reducible first | exact HB.out | apply below_alloc | apply pw_below_drewN | apply below_drew1 | refine below_set ?_ GE101.out) | exact HB.out)))); have n4_ := Aside0.mk (blk_below (g := gb101) (o := .cells #[.int .i64 a0_0, .int .u64 a0_1, .int .u64 a0_2, .int .u64 a0_3, .int .u64 a0_4, .slice A0_5 l0_5.length c0_5, .slice A0_6 l0_6.length c0_6, .slice A0_7 l0_7.length c0_7, .slice A0_8 l0_8.length c0_8] 55 (0, 0)) (by (with_reducible repeat (first | refine blk_drewN ?_ _ | refine blk_drew ?_ | refine blk_alloc ?_ _)); exact BK101.out) hb); have n5_ := Aside0.mk (below_step (by repeat (first | (with_reducible first | exact HB.out | apply below_alloc | apply pw_below_drewN | apply below_drew1 | refine below_set ?_ GE101.out) | exact HB.out)) hb); clear HO107; clear HO109; clear BK101; clear HB; have HO107 := n0_; have HO109 := n1_; have HO114 := n2_; have HO116 := n3_; have BK101 := n4_; have HB := n5_; clear n0_ n1_ n2_ n3_ n4_ n5_; (try clear hb); (try clear hb2); (try clear hk); (try clear hi); (try clear ho0); (try clear ho1); clear A6; have hcz14_0 : w13.cell? ⟨gb101, 0, none⟩ = some (.int .i64 a0_0) := (blk_cell BK101.out 0).trans rfl; have hcz14_1 : w13.cell? ⟨gb101, 1, none⟩ = some (.int .u64 a0_1) := (blk_cell BK101.out 1).trans rfl; have hcz14_2 : w13.cell? ⟨gb101, 2, none⟩ = some (.int .u64 a0_2) := (blk_cell BK101.out 2).trans rfl; have hcz14_3 : w13.cell? ⟨gb101, 3, none⟩ = some (.int .u64 a0_3) := (blk_cell BK101.out 3).trans rfl; have hcz14_4 : w13.cell? ⟨gb101, 4, none⟩ = some (.int .u64 a0_4) := (blk_cell BK101.out 4).trans rfl; have hcz14_5 : w13.cell? ⟨gb101, 5, none⟩ = some (.slice A0_5 l0_5.length c0_5) := (blk_cell BK101.out 5).trans rfl; have hcz14_6 : w13.cell? ⟨gb101, 6, none⟩ = some (.slice A0_6 l0_6.length c0_6) := (blk_cell BK101.out 6).trans rfl; have hcz14_7 : w13.cell? ⟨gb101, 7, none⟩ = some (.slice A0_7 l0_7.length c0_7) := (blk_cell BK101.out 7).trans rfl; have hcz14_8 : w13.cell? ⟨gb101, 8, none⟩ = some (.slice A0_8 l0_8.length c0_8) := (blk_cell BK101.out 8).trans rfl; have hfz14_0 := blk_frozen BK101.out 0; have hfz14_1 := blk_frozen BK101.out 1; have hfz14_2 := blk_frozen BK101.out 2; have hfz14_3 := blk_frozen BK101.out 3; have hfz14_4 := blk_frozen BK101.out 4; have hfz14_5 := blk_frozen BK101.out 5; have hfz14_6 := blk_frozen BK101.out 6; have hfz14_7 := blk_frozen BK101.out 7; have hfz14_8 := blk_frozen BK101.out 8; obtain ⟨Ao15, co15, eo15⟩ := Kd.R_slice HO109.out; subst eo15; obtain ⟨Ao16, co16, eo16⟩ := Kd.R_slice HO116.out; subst eo16) | ((with_reducible refine gate_callee (f := 90) rfl ?_); refine goesL_ (some 50) rfl rfl Try.func90 (by kernel_rfl) rfl #[.int .u64 a0_2, .int .u64 a0_3, .int .u64 a0_4, .slice Ao15 t104.length co15, .slice Ao16 t111.length co16] rfl (by (try simp only [List.map_toArray, List.map_cons, List.map_nil]); first | done | rfl | (simp only [List.length_drop, List.length_take]; rfl)) ?_; (with_reducible refine (tidepoleref09_Fits.calls k a0_2 a0_3 a0_4 (fun k_ => some k_ = (.slice Ao15 t104.length co15 : Value).ownBlock) _ _ t104 (fun k_ => some k_ = (.slice Ao16 t111.length co16 : Value).ownBlock) _ _ t111 t117 _ ?side1 ?side2 A8.out).mono ?_); (case side1 => exact Kd.R_V (Kd.R_tight rfl (Kd.R_types (Kd.R_apart' (Kd.R_apart' (HO109.out) (Kd.R_typed HO107.out) (by decide)) (Kd.R_typed HO114.out) (by decide)) BK101.out (by decide)))); (case side2 => exact Kd.R_V (Kd.R_tight rfl (Kd.R_types (Kd.R_apart' (Kd.R_apart' (HO116.out) (Kd.R_typed HO107.out) (by decide)) (Kd.R_typed HO114.out) (by decide)) BK101.out (by decide)))); rintro e w17 ⟨rfl, hb⟩; refine ⟨_, rfl, ?_⟩; have n0_ := Aside0.mk (Kd.R_below (by (with_reducible repeat (first | apply Kd.R_alloc | apply Kd.R_drewN | apply Kd.R_drew)); exact HO107.out) hb); have n1_ := Aside0.mk (Kd.R_below (by (with_reducible repeat (first | apply Kd.R_alloc | apply Kd.R_drewN | apply Kd.R_drew)); exact HO109.out) hb); have n2_ := Aside0.mk (Kd.R_below (by (with_reducible repeat (first | apply Kd.R_alloc | apply Kd.R_drewN | apply Kd.R_drew)); exact HO114.out) hb); have n3_ := Aside0.mk (Kd.R_below (by (with_reducible repeat (first | apply Kd.R_alloc | apply Kd.R_drewN | apply Kd.R_drew)); exact HO116.out) hb); have n4_ := Aside0.mk (blk_below (g := gb101) (o := .cells #[.int .i64 a0_0, .int .u64 a0_1, .int .u64 a0_2, .int .u64 a0_3, .int .u64 a0_4, .slice A0_5 l0_5.length c0_5, .slice A0_6 l0_6.length c0_6, .slice A0_7 l0_7.length c0_7, .slice A0_8 l0_8.length c0_8] 55 (0, 0)) (by (with_reducible repeat (first | refine blk_drewN ?_ _ | refine blk_drew ?_ | refine blk_alloc ?_ _)); exact BK101.out) hb); have n5_ := Aside0.mk (below_step (by repeat (first | (with_reducible first | exact HB.out | apply below_alloc | apply pw_below_drewN | apply below_drew1 | refine below_set ?_ GE101.out) | exact HB.out)) hb); clear HO107; clear HO109; clear HO114; clear HO116; clear BK101; clear HB; have HO107 := n0_; have HO109 := n1_; have HO114 := n2_; have HO116 := n3_; have BK101 := n4_; have HB := n5_; clear n0_ n1_ n2_ n3_ n4_ n5_; (try clear hb); (try clear hb2); (try clear hk); (try clear hi); clear A8))
    go_ret
    exact ⟨by first | rfl | (simp [errW_none, errW_some] <;> rfl) | (simp [*, errW_none, errW_some] <;> rfl), by repeat (first | (with_reducible first | exact HB.out | apply below_alloc | apply pw_below_drewN | apply below_drew1 | refine below_set ?_ GE101.out) | exact HB.out)⟩
   ·rw [if_neg c7] at H
    have c7b0 : (t112 == 0) = false := beq_eq_false_iff_ne.mpr c7
    have c7b1 : (t112 != 0) = true := bne_iff_ne.mpr c7
    obtain rfl := Option.some.inj H
    go_enter Try.func28, Try.ntmps28
    go_wp2_with (first | ((with_reducible refine gate_dst (N := 1) rfl ?_); refine box_event ?hg (N := 1) ?hd (cs := #[.int .i64 a0_0, .int .u64 a0_1, .int .u64 a0_2, .int .u64 a0_3, .int .u64 a0_4, .slice A0_5 l0_5.length c0_5, .slice A0_6 l0_6.length c0_6, .slice A0_7 l0_7.length c0_7, .slice A0_8 l0_8.length c0_8]) (t := 55) ?hr ?_; (case hd => rfl); (case hg => rfl); (case hr => first | (go_simp; done) | (go_simp; rfl)); intro gb101 hg w18 hbox hb; have n0_ := Aside0.mk (below_step (by repeat (first | (with_reducible first | exact HB.out | apply below_alloc | apply pw_below_drewN | apply below_drew1) | exact HB.out)) hb); have n1_ := Aside0.mk (hbox); have n2_ := Aside0.mk ((by rw [hg]; exact (below_size (by repeat (first | (with_reducible first | exact HB.out | apply below_alloc | apply pw_below_drewN | apply below_drew1) | exact HB.out))) : w.heap.size ≤ gb101)); have n3_ := Aside0.mk ((by rw [hg]; exact (below_size (by repeat (first | (with_reducible first | exact HB.out | apply below_alloc | apply pw_below_drewN | apply below_drew1) | exact HB.out))) : w.heap.size ≤ gb101)); clear HB; have HB := n0_; have BK101 := n1_; have GW101 := n2_; have GE101 := n3_; clear n0_ n1_ n2_ n3_; clear hb hbox hg; have hcz19_0 : w18.cell? ⟨gb101, 0, none⟩ = some (.int .i64 a0_0) := (blk_cell BK101.out 0).trans rfl; have hcz19_1 : w18.cell? ⟨gb101, 1, none⟩ = some (.int .u64 a0_1) := (blk_cell BK101.out 1).trans rfl; have hcz19_2 : w18.cell? ⟨gb101, 2, none⟩ = some (.int .u64 a0_2) := (blk_cell BK101.out 2).trans rfl; have hcz19_3 : w18.cell? ⟨gb101, 3, none⟩ = some (.int .u64 a0_3) := (blk_cell BK101.out 3).trans rfl; have hcz19_4 : w18.cell? ⟨gb101, 4, none⟩ = some (.int .u64 a0_4) := (blk_cell BK101.out 4).trans rfl; have hcz19_5 : w18.cell? ⟨gb101, 5, none⟩ = some (.slice A0_5 l0_5.length c0_5) := (blk_cell BK101.out 5).trans rfl; have hcz19_6 : w18.cell? ⟨gb101, 6, none⟩ = some (.slice A0_6 l0_6.length c0_6) := (blk_cell BK101.out 6).trans rfl; have hcz19_7 : w18.cell? ⟨gb101, 7, none⟩ = some (.slice A0_7 l0_7.length c0_7) := (blk_cell BK101.out 7).trans rfl; have hcz19_8 : w18.cell? ⟨gb101, 8, none⟩ = some (.slice A0_8 l0_8.length c0_8) := (blk_cell BK101.out 8).trans rfl; have hfz19_0 := blk_frozen BK101.out 0; have hfz19_1 := blk_frozen BK101.out 1; have hfz19_2 := blk_frozen BK101.out 2; have hfz19_3 := blk_frozen BK101.out 3; have hfz19_4 := blk_frozen BK101.out 4; have hfz19_5 := blk_frozen BK101.out 5; have hfz19_6 := blk_frozen BK101.out 6; have hfz19_7 := blk_frozen BK101.out 7; have hfz19_8 := blk_frozen BK101.out 8) | ((with_reducible refine gate_callee (f := 89) rfl ?_); refine goesL_ (some 14) rfl rfl Try.func89 (by kernel_rfl) rfl #[.int .i64 a0_0, .int .u64 a0_1] rfl (by (try simp only [List.map_toArray, List.map_cons, List.map_nil]); first | done | rfl | (simp only [List.length_drop, List.length_take]; rfl)) ?_; (with_reducible refine (tidepoleref09_Head.calls k a0_0 a0_1 t102 _ A2.out).mono ?_); rintro e w' ⟨rfl, ⟨nd, rfl⟩⟩; refine ⟨_, rfl, ?_⟩; clear A2) | ((with_reducible refine gate_callee (f := 30) rfl ?_); refine goesL_ (some 23) rfl rfl Try.func30 (by kernel_rfl) rfl #[.slice A0_5 l0_5.length c0_5, .slice A0_7 l0_7.length c0_7] rfl (by (try simp only [List.map_toArray, List.map_cons, List.map_nil]); first | done | rfl | (simp only [List.length_drop, List.length_take]; rfl)) ?_; (with_reducible refine (tidepoleref09_Side.calls k _ _ l0_5 _ _ l0_7 t103 t104 t105 _ ?side1 ?side2 ?side3 ?side4 A4.out).mono ?_); (case side1 => repeat (first | exact (Kd.C_below HR0_5.out (by repeat (first | (with_reducible first | exact HB.out | apply below_alloc | apply pw_below_drewN | apply below_drew1 | refine below_set ?_ GE101.out) | exact HB.out))) | (with_reducible refine Kd.C_alloc ?_ _) | (with_reducible refine Kd.C_drewN ?_ _) | (with_reducible refine Kd.C_drew ?_))); (case side2 => exact HC0_5.out); (case side3 => repeat (first | exact (Kd.C_below HR0_7.out (by repeat (first | (with_reducible first | exact HB.out | apply below_alloc | apply pw_below_drewN | apply below_drew1 | refine below_set ?_ GE101.out) | exact HB.out))) | (with_reducible refine Kd.C_alloc ?_ _) | (with_reducible refine Kd.C_drewN ?_ _) | (with_reducible refine Kd.C_drew ?_))); (case side4 => exact HC0_7.out); rintro e w20 ⟨v106, v108, rfl, ho0, ho1, hb⟩; refine ⟨_, rfl, ?_⟩; have n0_ := Aside0.mk (Kd.R_lower ho0 (below_size (by repeat (first | (with_reducible first | exact HB.out | apply below_alloc | apply pw_below_drewN | apply below_drew1 | refine below_set ?_ GE101.out) | exact HB.out)))); have n1_ := Aside0.mk (Kd.R_lower ho1 (below_size (by repeat (first | (with_reducible first | exact HB.out | apply below_alloc | apply pw_below_drewN | apply below_drew1 | refine below_set ?_ GE101.out) | exact HB.out)))); have n2_ := Aside0.mk (blk_below (g := gb101) (o := .cells #[.int .i64 a0_0, .int .u64 a0_1, .int .u64 a0_2, .int .u64 a0_3, .int .u64 a0_4, .slice A0_5 l0_5.length c0_5, .slice A0_6 l0_6.length c0_6, .slice A0_7 l0_7.length c0_7, .slice A0_8 l0_8.length c0_8] 55 (0, 0)) (by (with_reducible repeat (first | refine blk_drewN ?_ _ | refine blk_drew ?_ | refine blk_alloc ?_ _)); exact BK101.out) hb); have n3_ := Aside0.mk (below_step (by repeat (first | (with_reducible first | exact HB.out | apply below_alloc | apply pw_below_drewN | apply below_drew1 | refine below_set ?_ GE101.out) | exact HB.out)) hb); clear BK101; clear HB; have HO107 := n0_; have HO109 := n1_; have BK101 := n2_; have HB := n3_; clear n0_ n1_ n2_ n3_; (try clear hb); (try clear hb2); (try clear hk); (try clear hi); (try clear ho0); (try clear ho1); clear A4; have hcz21_0 : w20.cell? ⟨gb101, 0, none⟩ = some (.int .i64 a0_0) := (blk_cell BK101.out 0).trans rfl; have hcz21_1 : w20.cell? ⟨gb101, 1, none⟩ = some (.int .u64 a0_1) := (blk_cell BK101.out 1).trans rfl; have hcz21_2 : w20.cell? ⟨gb101, 2, none⟩ = some (.int .u64 a0_2) := (blk_cell BK101.out 2).trans rfl; have hcz21_3 : w20.cell? ⟨gb101, 3, none⟩ = some (.int .u64 a0_3) := (blk_cell BK101.out 3).trans rfl; have hcz21_4 : w20.cell? ⟨gb101, 4, none⟩ = some (.int .u64 a0_4) := (blk_cell BK101.out 4).trans rfl; have hcz21_5 : w20.cell? ⟨gb101, 5, none⟩ = some (.slice A0_5 l0_5.length c0_5) := (blk_cell BK101.out 5).trans rfl; have hcz21_6 : w20.cell? ⟨gb101, 6, none⟩ = some (.slice A0_6 l0_6.length c0_6) := (blk_cell BK101.out 6).trans rfl; have hcz21_7 : w20.cell? ⟨gb101, 7, none⟩ = some (.slice A0_7 l0_7.length c0_7) := (blk_cell BK101.out 7).trans rfl; have hcz21_8 : w20.cell? ⟨gb101, 8, none⟩ = some (.slice A0_8 l0_8.length c0_8) := (blk_cell BK101.out 8).trans rfl; have hfz21_0 := blk_frozen BK101.out 0; have hfz21_1 := blk_frozen BK101.out 1; have hfz21_2 := blk_frozen BK101.out 2; have hfz21_3 := blk_frozen BK101.out 3; have hfz21_4 := blk_frozen BK101.out 4; have hfz21_5 := blk_frozen BK101.out 5; have hfz21_6 := blk_frozen BK101.out 6; have hfz21_7 := blk_frozen BK101.out 7; have hfz21_8 := blk_frozen BK101.out 8) | ((with_reducible refine gate_callee (f := 30) rfl ?_); refine goesL_ (some 35) rfl rfl Try.func30 (by kernel_rfl) rfl #[.slice A0_6 l0_6.length c0_6, .slice A0_8 l0_8.length c0_8] rfl (by (try simp only [List.map_toArray, List.map_cons, List.map_nil]); first | done | rfl | (simp only [List.length_drop, List.length_take]; rfl)) ?_; (with_reducible refine (tidepoleref09_Side.calls k _ _ l0_6 _ _ l0_8 t110 t111 t112 _ ?side1 ?side2 ?side3 ?side4 A6.out).mono ?_); (case side1 => repeat (first | exact (Kd.C_below HR0_6.out HB.out) | (with_reducible refine Kd.C_alloc ?_ _) | (with_reducible refine Kd.C_drewN ?_ _) | (with_reducible refine Kd.C_drew ?_))); (case side2 => exact HC0_6.out); (case side3 => repeat (first | exact (Kd.C_below HR0_8.out HB.out) | (with_reducible refine Kd.C_alloc ?_ _) | (with_reducible refine Kd.C_drewN ?_ _) | (with_reducible refine Kd.C_drew ?_))); (case side4 => exact HC0_8.out); rintro e w22 ⟨v113, v115, rfl, ho0, ho1, hb⟩; refine ⟨_, rfl, ?_⟩; have n0_ := Aside0.mk (Kd.R_elder' (by (with_reducible repeat (first | apply Kd.R_alloc | apply Kd.R_drewN | apply Kd.R_drew)); exact HO107.out) (Kd.R_base ho0) hb); have n1_ := Aside0.mk (Kd.R_elder' (by (with_reducible repeat (first | apply Kd.R_alloc | apply Kd.R_drewN | apply Kd.R_drew)); exact HO109.out) (Kd.R_base ho1) hb); have n2_ := Aside0.mk (Kd.R_lower (Kd.R_new' ho0 (Kd.R_lt (by (with_reducible repeat (first | apply Kd.R_alloc | apply Kd.R_drewN | apply Kd.R_drew)); exact HO107.out))) (below_size (by repeat (first | (with_reducible first | exact HB.out | apply below_alloc | apply pw_below_drewN | apply below_drew1 | refine below_set ?_ GE101.out) | exact HB.out)))); have n3_ := Aside0.mk (Kd.R_lower (Kd.R_new' ho1 (Kd.R_lt (by (with_reducible repeat (first | apply Kd.R_alloc | apply Kd.R_drewN | apply Kd.R_drew)); exact HO109.out))) (below_size (by repeat (first | (with_reducible first | exact HB.out | apply below_alloc | apply pw_below_drewN | apply below_drew1 | refine below_set ?_ GE101.out) | exact HB.out)))); have n4_ := Aside0.mk (blk_below (g := gb101) (o := .cells #[.int .i64 a0_0, .int .u64 a0_1, .int .u64 a0_2, .int .u64 a0_3, .int .u64 a0_4, .slice A0_5 l0_5.length c0_5, .slice A0_6 l0_6.length c0_6, .slice A0_7 l0_7.length c0_7, .slice A0_8 l0_8.length c0_8] 55 (0, 0)) (by (with_reducible repeat (first | refine blk_drewN ?_ _ | refine blk_drew ?_ | refine blk_alloc ?_ _)); exact BK101.out) hb); have n5_ := Aside0.mk (below_step (by repeat (first | (with_reducible first | exact HB.out | apply below_alloc | apply pw_below_drewN | apply below_drew1 | refine below_set ?_ GE101.out) | exact HB.out)) hb); clear HO107; clear HO109; clear BK101; clear HB; have HO107 := n0_; have HO109 := n1_; have HO114 := n2_; have HO116 := n3_; have BK101 := n4_; have HB := n5_; clear n0_ n1_ n2_ n3_ n4_ n5_; (try clear hb); (try clear hb2); (try clear hk); (try clear hi); (try clear ho0); (try clear ho1); clear A6))
    go_ret
    exact ⟨by first | rfl | (simp [errW_none, errW_some] <;> rfl) | (simp [*, errW_none, errW_some] <;> rfl), by repeat (first | (with_reducible first | exact HB.out | apply below_alloc | apply pw_below_drewN | apply below_drew1 | refine below_set ?_ GE101.out) | exact HB.out)⟩
  ·rw [if_neg c5] at H
   have c5b0 : (t105 == 0) = false := beq_eq_false_iff_ne.mpr c5
   have c5b1 : (t105 != 0) = true := bne_iff_ne.mpr c5
   obtain rfl := Option.some.inj H
   go_enter Try.func28, Try.ntmps28
   go_wp2_with (first | ((with_reducible refine gate_dst (N := 1) rfl ?_); refine box_event ?hg (N := 1) ?hd (cs := #[.int .i64 a0_0, .int .u64 a0_1, .int .u64 a0_2, .int .u64 a0_3, .int .u64 a0_4, .slice A0_5 l0_5.length c0_5, .slice A0_6 l0_6.length c0_6, .slice A0_7 l0_7.length c0_7, .slice A0_8 l0_8.length c0_8]) (t := 55) ?hr ?_; (case hd => rfl); (case hg => rfl); (case hr => first | (go_simp; done) | (go_simp; rfl)); intro gb101 hg w23 hbox hb; have n0_ := Aside0.mk (below_step (by repeat (first | (with_reducible first | exact HB.out | apply below_alloc | apply pw_below_drewN | apply below_drew1) | exact HB.out)) hb); have n1_ := Aside0.mk (hbox); have n2_ := Aside0.mk ((by rw [hg]; exact (below_size (by repeat (first | (with_reducible first | exact HB.out | apply below_alloc | apply pw_below_drewN | apply below_drew1) | exact HB.out))) : w.heap.size ≤ gb101)); have n3_ := Aside0.mk ((by rw [hg]; exact (below_size (by repeat (first | (with_reducible first | exact HB.out | apply below_alloc | apply pw_below_drewN | apply below_drew1) | exact HB.out))) : w.heap.size ≤ gb101)); clear HB; have HB := n0_; have BK101 := n1_; have GW101 := n2_; have GE101 := n3_; clear n0_ n1_ n2_ n3_; clear hb hbox hg; have hcz24_0 : w23.cell? ⟨gb101, 0, none⟩ = some (.int .i64 a0_0) := (blk_cell BK101.out 0).trans rfl; have hcz24_1 : w23.cell? ⟨gb101, 1, none⟩ = some (.int .u64 a0_1) := (blk_cell BK101.out 1).trans rfl; have hcz24_2 : w23.cell? ⟨gb101, 2, none⟩ = some (.int .u64 a0_2) := (blk_cell BK101.out 2).trans rfl; have hcz24_3 : w23.cell? ⟨gb101, 3, none⟩ = some (.int .u64 a0_3) := (blk_cell BK101.out 3).trans rfl; have hcz24_4 : w23.cell? ⟨gb101, 4, none⟩ = some (.int .u64 a0_4) := (blk_cell BK101.out 4).trans rfl; have hcz24_5 : w23.cell? ⟨gb101, 5, none⟩ = some (.slice A0_5 l0_5.length c0_5) := (blk_cell BK101.out 5).trans rfl; have hcz24_6 : w23.cell? ⟨gb101, 6, none⟩ = some (.slice A0_6 l0_6.length c0_6) := (blk_cell BK101.out 6).trans rfl; have hcz24_7 : w23.cell? ⟨gb101, 7, none⟩ = some (.slice A0_7 l0_7.length c0_7) := (blk_cell BK101.out 7).trans rfl; have hcz24_8 : w23.cell? ⟨gb101, 8, none⟩ = some (.slice A0_8 l0_8.length c0_8) := (blk_cell BK101.out 8).trans rfl; have hfz24_0 := blk_frozen BK101.out 0; have hfz24_1 := blk_frozen BK101.out 1; have hfz24_2 := blk_frozen BK101.out 2; have hfz24_3 := blk_frozen BK101.out 3; have hfz24_4 := blk_frozen BK101.out 4; have hfz24_5 := blk_frozen BK101.out 5; have hfz24_6 := blk_frozen BK101.out 6; have hfz24_7 := blk_frozen BK101.out 7; have hfz24_8 := blk_frozen BK101.out 8) | ((with_reducible refine gate_callee (f := 89) rfl ?_); refine goesL_ (some 14) rfl rfl Try.func89 (by kernel_rfl) rfl #[.int .i64 a0_0, .int .u64 a0_1] rfl (by (try simp only [List.map_toArray, List.map_cons, List.map_nil]); first | done | rfl | (simp only [List.length_drop, List.length_take]; rfl)) ?_; (with_reducible refine (tidepoleref09_Head.calls k a0_0 a0_1 t102 _ A2.out).mono ?_); rintro e w' ⟨rfl, ⟨nd, rfl⟩⟩; refine ⟨_, rfl, ?_⟩; clear A2) | ((with_reducible refine gate_callee (f := 30) rfl ?_); refine goesL_ (some 23) rfl rfl Try.func30 (by kernel_rfl) rfl #[.slice A0_5 l0_5.length c0_5, .slice A0_7 l0_7.length c0_7] rfl (by (try simp only [List.map_toArray, List.map_cons, List.map_nil]); first | done | rfl | (simp only [List.length_drop, List.length_take]; rfl)) ?_; (with_reducible refine (tidepoleref09_Side.calls k _ _ l0_5 _ _ l0_7 t103 t104 t105 _ ?side1 ?side2 ?side3 ?side4 A4.out).mono ?_); (case side1 => repeat (first | exact (Kd.C_below HR0_5.out (by repeat (first | (with_reducible first | exact HB.out | apply below_alloc | apply pw_below_drewN | apply below_drew1 | refine below_set ?_ GE101.out) | exact HB.out))) | (with_reducible refine Kd.C_alloc ?_ _) | (with_reducible refine Kd.C_drewN ?_ _) | (with_reducible refine Kd.C_drew ?_))); (case side2 => exact HC0_5.out); (case side3 => repeat (first | exact (Kd.C_below HR0_7.out (by repeat (first | (with_reducible first | exact HB.out | apply below_alloc | apply pw_below_drewN | apply below_drew1 | refine below_set ?_ GE101.out) | exact HB.out))) | (with_reducible refine Kd.C_alloc ?_ _) | (with_reducible refine Kd.C_drewN ?_ _) | (with_reducible refine Kd.C_drew ?_))); (case side4 => exact HC0_7.out); rintro e w25 ⟨v106, v108, rfl, ho0, ho1, hb⟩; refine ⟨_, rfl, ?_⟩; have n0_ := Aside0.mk (Kd.R_lower ho0 (below_size (by repeat (first | (with_reducible first | exact HB.out | apply below_alloc | apply pw_below_drewN | apply below_drew1 | refine below_set ?_ GE101.out) | exact HB.out)))); have n1_ := Aside0.mk (Kd.R_lower ho1 (below_size (by repeat (first | (with_reducible first | exact HB.out | apply below_alloc | apply pw_below_drewN | apply below_drew1 | refine below_set ?_ GE101.out) | exact HB.out)))); have n2_ := Aside0.mk (blk_below (g := gb101) (o := .cells #[.int .i64 a0_0, .int .u64 a0_1, .int .u64 a0_2, .int .u64 a0_3, .int .u64 a0_4, .slice A0_5 l0_5.length c0_5, .slice A0_6 l0_6.length c0_6, .slice A0_7 l0_7.length c0_7, .slice A0_8 l0_8.length c0_8] 55 (0, 0)) (by (with_reducible repeat (first | refine blk_drewN ?_ _ | refine blk_drew ?_ | refine blk_alloc ?_ _)); exact BK101.out) hb); have n3_ := Aside0.mk (below_step (by repeat (first | (with_reducible first | exact HB.out | apply below_alloc | apply pw_below_drewN | apply below_drew1 | refine below_set ?_ GE101.out) | exact HB.out)) hb); clear BK101; clear HB; have HO107 := n0_; have HO109 := n1_; have BK101 := n2_; have HB := n3_; clear n0_ n1_ n2_ n3_; (try clear hb); (try clear hb2); (try clear hk); (try clear hi); (try clear ho0); (try clear ho1); clear A4))
   go_ret
   exact ⟨by first | rfl | (simp [errW_none, errW_some] <;> rfl) | (simp [*, errW_none, errW_some] <;> rfl), by repeat (first | (with_reducible first | exact HB.out | apply below_alloc | apply pw_below_drewN | apply below_drew1 | refine below_set ?_ GE101.out) | exact HB.out)⟩
 ·rw [if_neg c3] at H
  have c3b0 : (t102 == 0) = false := beq_eq_false_iff_ne.mpr c3
  have c3b1 : (t102 != 0) = true := bne_iff_ne.mpr c3
  obtain rfl := Option.some.inj H
  go_enter Try.func28, Try.ntmps28
  go_wp2_with (first | ((with_reducible refine gate_dst (N := 1) rfl ?_); refine box_event ?hg (N := 1) ?hd (cs := #[.int .i64 a0_0, .int .u64 a0_1, .int .u64 a0_2, .int .u64 a0_3, .int .u64 a0_4, .slice A0_5 l0_5.length c0_5, .slice A0_6 l0_6.length c0_6, .slice A0_7 l0_7.length c0_7, .slice A0_8 l0_8.length c0_8]) (t := 55) ?hr ?_; (case hd => rfl); (case hg => rfl); (case hr => first | (go_simp; done) | (go_simp; rfl)); intro gb101 hg w26 hbox hb; have n0_ := Aside0.mk (below_step (by repeat (first | (with_reducible first | exact HB.out | apply below_alloc | apply pw_below_drewN | apply below_drew1) | exact HB.out)) hb); have n1_ := Aside0.mk (hbox); have n2_ := Aside0.mk ((by rw [hg]; exact (below_size (by repeat (first | (with_reducible first | exact HB.out | apply below_alloc | apply pw_below_drewN | apply below_drew1) | exact HB.out))) : w.heap.size ≤ gb101)); have n3_ := Aside0.mk ((by rw [hg]; exact (below_size (by repeat (first | (with_reducible first | exact HB.out | apply below_alloc | apply pw_below_drewN | apply below_drew1) | exact HB.out))) : w.heap.size ≤ gb101)); clear HB; have HB := n0_; have BK101 := n1_; have GW101 := n2_; have GE101 := n3_; clear n0_ n1_ n2_ n3_; clear hb hbox hg; have hcz27_0 : w26.cell? ⟨gb101, 0, none⟩ = some (.int .i64 a0_0) := (blk_cell BK101.out 0).trans rfl; have hcz27_1 : w26.cell? ⟨gb101, 1, none⟩ = some (.int .u64 a0_1) := (blk_cell BK101.out 1).trans rfl; have hcz27_2 : w26.cell? ⟨gb101, 2, none⟩ = some (.int .u64 a0_2) := (blk_cell BK101.out 2).trans rfl; have hcz27_3 : w26.cell? ⟨gb101, 3, none⟩ = some (.int .u64 a0_3) := (blk_cell BK101.out 3).trans rfl; have hcz27_4 : w26.cell? ⟨gb101, 4, none⟩ = some (.int .u64 a0_4) := (blk_cell BK101.out 4).trans rfl; have hcz27_5 : w26.cell? ⟨gb101, 5, none⟩ = some (.slice A0_5 l0_5.length c0_5) := (blk_cell BK101.out 5).trans rfl; have hcz27_6 : w26.cell? ⟨gb101, 6, none⟩ = some (.slice A0_6 l0_6.length c0_6) := (blk_cell BK101.out 6).trans rfl; have hcz27_7 : w26.cell? ⟨gb101, 7, none⟩ = some (.slice A0_7 l0_7.length c0_7) := (blk_cell BK101.out 7).trans rfl; have hcz27_8 : w26.cell? ⟨gb101, 8, none⟩ = some (.slice A0_8 l0_8.length c0_8) := (blk_cell BK101.out 8).trans rfl; have hfz27_0 := blk_frozen BK101.out 0; have hfz27_1 := blk_frozen BK101.out 1; have hfz27_2 := blk_frozen BK101.out 2; have hfz27_3 := blk_frozen BK101.out 3; have hfz27_4 := blk_frozen BK101.out 4; have hfz27_5 := blk_frozen BK101.out 5; have hfz27_6 := blk_frozen BK101.out 6; have hfz27_7 := blk_frozen BK101.out 7; have hfz27_8 := blk_frozen BK101.out 8) | ((with_reducible refine gate_callee (f := 89) rfl ?_); refine goesL_ (some 14) rfl rfl Try.func89 (by kernel_rfl) rfl #[.int .i64 a0_0, .int .u64 a0_1] rfl (by (try simp only [List.map_toArray, List.map_cons, List.map_nil]); first | done | rfl | (simp only [List.length_drop, List.length_take]; rfl)) ?_; (with_reducible refine (tidepoleref09_Head.calls k a0_0 a0_1 t102 _ A2.out).mono ?_); rintro e w' ⟨rfl, ⟨nd, rfl⟩⟩; refine ⟨_, rfl, ?_⟩; clear A2))
  go_ret
  exact ⟨by first | rfl | (simp [errW_none, errW_some] <;> rfl) | (simp [*, errW_none, errW_some] <;> rfl), by repeat (first | (with_reducible first | exact HB.out | apply below_alloc | apply pw_below_drewN | apply below_drew1 | refine below_set ?_ GE101.out) | exact HB.out)⟩
end Go.Proofs.Ytcabapilejagkaa.P
namespace Go.Proofs.Ytcabapilejagkaa.P
open Go.RowKit Go.Proofs.YtcabapilejagkaaW.PrintWords Go.Proofs.YtcabapilejagkaaW.PrintLast Go.Proofs.YtcabapilejagkaaW.PrintMore
set_option linter.unusedVariables false
set_option linter.unusedSimpArgs false
theorem rd_map {α : Type} (f : α → Int) {l : List α} {i : Nat} (h : i < l.length) : rd (l.map f) (i : Int) = f l[i] := by rw [rd_at (by simpa using h)]; simp
theorem refSide_loop (ps c : List Int) (hm : c.length < 17592186044416) : ∀ (d k i : Nat), c.length - i = d → d < k → i ≤ c.length →
    tidepoleref09_Side.l0 k ps c (i : Int) = some (if (c.drop i).any (fun x => decide (x < 0)) = true then ([], [], 22) else (ps, c, 0)) := by
  intro d
  induction d with
  | zero =>
    intro k i hd hk hi
    obtain ⟨k, rfl⟩ : ∃ m, k = m + 1 := ⟨k - 1, by omega⟩
    rw [tidepoleref09_Side.l0, if_neg (by omega), drop_end (by omega)]; rfl
  | succ d ih =>
    intro k i hd hk hi
    obtain ⟨k, rfl⟩ : ∃ m, k = m + 1 := ⟨k - 1, by omega⟩
    have hlt : i < c.length := by omega
    rw [tidepoleref09_Side.l0, if_pos (by omega), if_pos (by omega), rd_at hlt, drop_at hlt, List.any_cons]
    by_cases h : c[i] < 0
    · rw [if_pos h, decide_eq_true h]; rfl
    · rw [if_neg h, decide_eq_false h, Bool.false_or, wrap_succ (by omega)]
      exact ih k (i + 1) (by omega) (by omega) (by omega)
def sideRef (l : List Sp) (d : List Int) : List Int × List Int × Int := ((sideRes l d).1.map (·.f0), (sideRes l d).1.map (·.f1), (sideRes l d).2)
theorem zipL : ∀ (ps v : List Int), ps.length = v.length → (List.zipWith (fun p x => (⟨p, x⟩ : Pr)) ps v).map (·.f0) = ps ∧ (List.zipWith (fun p x => (⟨p, x⟩ : Pr)) ps v).map (·.f1) = v
  | [], [], _ => ⟨rfl, rfl⟩
  | p :: ps, x :: v, h => by have := zipL ps v (by simpa using h); exact ⟨by simp only [List.zipWith_cons_cons, List.map_cons, this.1], by simp only [List.zipWith_cons_cons, List.map_cons, this.2]⟩
  | [], _ :: _, h => by simp at h
  | _ :: _, [], h => by simp at h
theorem refSide_eq (l : List Sp) (d : List Int) (hl : wfSps l) (hd : i64s d) (hm : d.length < 4398046511104) (k : Nat) (hk : 5120000 + d.length < k) : tidepoleref09_Side.f k (l.map toR) d = some (sideRef l d) := by
  unfold tidepoleref09_Side.f sideRef sideRes
  rw [refCheck_eq l hl k (by omega), Option.bind_some]
  by_cases h1 : spCheck l = 0
  · have hp := plN_length l 0 (fun s hs => (spRight_pos l _ _ _ (spCheck_zero h1).2 s hs).1)
    rw [if_pos h1, if_pos h1, refPlaces_eq l h1 k (by omega), Option.bind_some]
    by_cases h2 : cntN l = d.length
    · rw [if_pos (by omega), if_pos h2, refAbsolute_eq d hd (by omega) k (by omega), Option.bind_some]
      cases hs : sumsFrom 0 d with
      | none => simp
      | some c =>
        have hc := sumsFrom_length d 0 c hs
        simp only
        have hlp := refSide_loop (plN 0 l) c (by omega) c.length k 0 (by omega) (by omega) (by omega)
        rw [List.drop_zero, show ((0 : Nat) : Int) = 0 from rfl] at hlp
        rw [if_neg (by omega), hlp]
        by_cases h3 : c.any (fun x => decide (x < 0)) = true
        · rw [if_pos h3, if_pos h3]; rfl
        · rw [if_neg h3, if_neg h3]
          have := zipL (plN 0 l) c (by omega)
          simp only [this.1, this.2]
    · rw [if_neg (by omega), if_neg h2]; rfl
  · rw [if_neg h1, if_neg h1]; rfl
theorem andNot_eq (v : Int) (h : u64 v) : Go.bits .andNot .u64 v 9223372036854775808 = if v ≥ 9223372036854775808 then v - 9223372036854775808 else v := by
  have h0 := h.1; have h1 := h.2
  rw [Go.u64_andNot v 9223372036854775808 h0 (by omega) (by omega) (by omega)]
  have e : (18446744073709551615 - (9223372036854775808 : Int).toNat : Nat) = 2 ^ 63 - 1 := by decide
  rw [e, Nat.and_two_pow_sub_one_eq_mod]
  split <;> omega
theorem refNaN_eq (v : Int) (h : u64 v) : tidepoleref09_NaN.f v = some (nan v) := by
  unfold tidepoleref09_NaN.f nan
  rw [andNot_eq v h]
  have := h.1; have := h.2
  by_cases c : v ≥ 9223372036854775808
  · rw [if_pos c, if_pos c]
    have : IntKind.u64.wrap (v - 9223372036854775808) = v - 9223372036854775808 := by
      show (v - 9223372036854775808) % 18446744073709551616 = _; omega
    rw [this]
  · rw [if_neg c, if_neg c]
theorem refHead_eq (s z : Int) (k : Nat) (hk : 0 < k) : tidepoleref09_Head.f k s z = some (if s < -4 ∨ s > 8 then 21 else if ¬ z < 9218868437227405312 then 11 else 0) := by
  obtain ⟨k, rfl⟩ : ∃ m, k = m + 1 := ⟨k - 1, by omega⟩
  unfold tidepoleref09_Head.f
  by_cases h1 : s < -4
  · rw [if_pos h1, tidepoleref09_Head.j0, if_pos rfl, if_pos (Or.inl h1)]
  · rw [if_neg h1, tidepoleref09_Head.j0]
    by_cases h2 : s > 8
    · rw [if_pos (by simpa using h2), if_pos (Or.inr h2)]
    · rw [if_neg (by simpa using h2), if_neg (c := s < -4 ∨ s > 8) (by omega)]
      by_cases h3 : z < 9218868437227405312
      · rw [if_neg (by omega), if_neg (by omega)]
      · rw [if_pos (by omega), if_pos h3]
def leftV : Int → List Pr → Option Int
  | a, [] => some a
  | a, p :: l => if p.f1 > a then none else leftV (a - p.f1) l
theorem leftV_eq : ∀ (l : List Pr) (a : Int), (∀ p ∈ l, 0 ≤ p.f1) → leftV a l = if sumV l ≤ a then some (a - sumV l) else (if 0 ≤ a then none else leftV a l)
  | [], a, _ => by
    by_cases h : 0 ≤ a
    · simp [leftV, sumV, h]
    · simp [leftV, sumV, h]
  | p :: l, a, hp => by
    have hq := fun x hx => hp x (List.mem_cons_of_mem _ hx)
    have h0 := hp p (List.mem_cons_self ..)
    have hs := sumV_nonneg (l := l) hq
    have e : sumV (p :: l) = p.f1 + sumV l := by simp [sumV]
    rw [e]
    simp only [leftV]
    by_cases c : p.f1 > a
    · rw [if_pos c, if_neg (by omega)]; split <;> rfl
    · rw [if_neg c, leftV_eq l _ hq]
      by_cases d : sumV l ≤ a - p.f1
      · rw [if_pos d, if_pos (by omega)]; congr 1; omega
      · rw [if_neg d, if_neg (c := p.f1 + sumV l ≤ a) (by omega), if_pos (c := 0 ≤ a - p.f1) (by omega), if_pos (c := 0 ≤ a) (by omega)]
theorem u64_wrap {x : Int} (h : u64 x) : IntKind.u64.wrap x = x := by
  have := h.1; have := h.2
  show x % 18446744073709551616 = x; omega
theorem refFits_l1 (sm : Int) (P N : List Int) (l : List Pr) (h : ∀ p ∈ l, 0 ≤ p.f1 ∧ p.f1 ≤ 9223372036854775807) (hm : l.length < 17592186044416) (side : Int) : ∀ (d k i : Nat) (a : Int), l.length - i = d → d < k → i ≤ l.length → u64 a →
    tidepoleref09_Fits.l1 k sm P N a side (l.map (·.f1)) (i : Int) = match leftV a (l.drop i) with | none => some 22 | some b => tidepoleref09_Fits.l0 (k - d - 1) sm P N b (wrap64 (side + 1)) := by
  intro d
  induction d with
  | zero =>
    intro k i a hd hk hi ha
    obtain ⟨k, rfl⟩ : ∃ m, k = m + 1 := ⟨k - 1, by omega⟩
    rw [tidepoleref09_Fits.l1, List.length_map, if_neg (by omega), drop_end (by omega)]; rfl
  | succ d ih =>
    intro k i a hd hk hi ha
    obtain ⟨k, rfl⟩ : ∃ m, k = m + 1 := ⟨k - 1, by omega⟩
    have hlt : i < l.length := by omega
    have hx := h _ (List.getElem_mem hlt)
    have h0 := ha.1
    have h1 := ha.2
    rw [tidepoleref09_Fits.l1, List.length_map, if_pos (by omega), if_pos (by omega), rd_map _ hlt, drop_at hlt, if_neg (by omega), u64_wrap (x := l[i].f1) ⟨by omega, by omega⟩]
    simp only [leftV]
    by_cases c : l[i].f1 > a
    · rw [if_pos c, if_pos c]
    · have hr := ih k (i + 1) (a - l[i].f1) (by omega) (by omega) (by omega) ⟨by omega, by omega⟩
      rw [if_neg c, if_neg c, u64_wrap (x := a - l[i].f1) ⟨by omega, by omega⟩, wrap_succ (by omega), hr]
      rw [show k + 1 - (d + 1) - 1 = k - d - 1 by omega]
theorem refFits_eq (zc ct sm : Int) (p n : List Pr) (hz : u64 zc) (hc : u64 ct) (hs : u64 sm) (hp : ∀ x ∈ p, 0 ≤ x.f1 ∧ x.f1 ≤ 9223372036854775807) (hn : ∀ x ∈ n, 0 ≤ x.f1 ∧ x.f1 ≤ 9223372036854775807) (hpm : p.length < 17592186044416) (hnm : n.length < 17592186044416) (k : Nat) (hk : p.length + n.length + 10 < k) :
    tidepoleref09_Fits.f k zc ct sm (p.map (·.f1)) (n.map (·.f1)) = some (if fits zc ct sm p n = true then 0 else 22) := by
  have hsp := sumV_nonneg (l := p) (fun x hx => (hp x hx).1)
  have hsn := sumV_nonneg (l := n) (fun x hx => (hn x hx).1)
  have hz0 := hz.1; have hz1 := hz.2; have hc0 := hc.1; have hc1 := hc.2
  have hF : fits zc ct sm p n = decide (zc + sumV p + sumV n ≤ ct ∧ (zc + sumV p + sumV n = ct ∨ nan sm = true)) := by
    unfold fits totalRes
    have e : sumR [p, n] = sumV p + sumV n := by simp [sumR]
    rw [e]
    by_cases c : zc + (sumV p + sumV n) ≤ 18446744073709551615
    · rw [if_pos c]
      simp only [Bool.true_and]
      rw [Bool.eq_iff_iff, Bool.and_eq_true, Bool.or_eq_true, decide_eq_true_eq, decide_eq_true_eq, decide_eq_true_eq]
      constructor
      · rintro ⟨h1, h2⟩
        exact ⟨by omega, h2.imp (fun h => by omega) id⟩
      · rintro ⟨h1, h2⟩
        exact ⟨by omega, h2.imp (fun h => by omega) id⟩
    · rw [if_neg c]
      simp only [Bool.false_and]
      rw [decide_eq_false (by omega)]
  unfold tidepoleref09_Fits.f
  by_cases c0 : zc > ct
  · rw [if_pos c0, hF, decide_eq_false (by omega)]; rfl
  rw [if_neg c0, u64_wrap (x := ct - zc) ⟨by omega, by omega⟩]
  obtain ⟨k, rfl⟩ : ∃ m, k = m + 2 := ⟨k - 2, by omega⟩
  rw [tidepoleref09_Fits.l0, if_pos (by omega), if_neg (by omega), tidepoleref09_Fits.j1]
  have h1 := refFits_l1 sm (p.map (·.f1)) (n.map (·.f1)) p hp hpm 0 p.length k 0 (ct - zc) (by omega) (by omega) (by omega) ⟨by omega, by omega⟩
  rw [show ((0 : Nat) : Int) = 0 from rfl] at h1
  rw [h1, List.drop_zero, leftV_eq p _ (fun x hx => (hp x hx).1)]
  by_cases c1 : sumV p ≤ ct - zc
  rotate_left
  · rw [if_neg c1, if_pos (by omega), hF, decide_eq_false (by omega)]; rfl
  rw [if_pos c1]
  simp only
  rw [show wrap64 (0 + 1) = 1 from by unfold wrap64; omega]
  obtain ⟨j, hj⟩ : ∃ m, k - p.length - 1 = m + 2 := ⟨k - p.length - 1 - 2, by omega⟩
  rw [hj, tidepoleref09_Fits.l0, if_pos (by omega), if_pos rfl, tidepoleref09_Fits.j1]
  have h2 := refFits_l1 sm (p.map (·.f1)) (n.map (·.f1)) n hn hnm 1 n.length j 0 (ct - zc - sumV p) (by omega) (by omega) (by omega) ⟨by omega, by omega⟩
  rw [show ((0 : Nat) : Int) = 0 from rfl] at h2
  rw [h2, List.drop_zero, leftV_eq n _ (fun x hx => (hn x hx).1)]
  by_cases c2 : sumV n ≤ ct - zc - sumV p
  rotate_left
  · rw [if_neg c2, if_pos (by omega), hF, decide_eq_false (by omega)]; rfl
  rw [if_pos c2]
  simp only
  rw [show wrap64 (1 + 1) = 2 from by unfold wrap64; omega]
  obtain ⟨i, hi⟩ : ∃ m, j - n.length - 1 = m + 1 := ⟨j - n.length - 1 - 1, by omega⟩
  rw [hi, tidepoleref09_Fits.l0, if_neg (by omega), refNaN_eq sm hs, Option.bind_some, hF]
  by_cases c3 : ct - zc - sumV p - sumV n > 0
  · rw [if_pos c3]
    cases hnn : nan sm with
    | true => rw [if_pos rfl, decide_eq_true ⟨by omega, Or.inr rfl⟩, if_pos rfl]
    | false => rw [if_neg (by simp), decide_eq_false (by rintro ⟨_, h | h⟩; omega; cases h), if_neg (by simp)]
  · rw [if_neg c3, decide_eq_true ⟨by omega, Or.inl (by omega)⟩, if_pos rfl]
end Go.Proofs.Ytcabapilejagkaa.P
namespace Go.Proofs.Ytcabapilejagkaa.P
open Go.RowKit Go.Shelf Go.Proofs.YtcabapilejagkaaW.PrintWords Go.Proofs.YtcabapilejagkaaW.PrintLast Go.Proofs.YtcabapilejagkaaW.PrintMore
set_option linter.unusedVariables false
set_option linter.unusedSimpArgs false
def sameNums (a b : Hi) : Prop := a.f0 = b.f0 ∧ a.f1 = b.f1 ∧ a.f2 = b.f2 ∧ a.f3 = b.f3 ∧ a.f4 = b.f4
instance (a b : Hi) : Decidable (sameNums a b) := by unfold sameNums; exact inferInstance
end Go.Proofs.Ytcabapilejagkaa.P
namespace Go.Proofs.Ytcabapilejagkaa.P
open Go.RowKit Go.Shelf Go.Proofs.YtcabapilejagkaaW.PrintWords Go.Proofs.YtcabapilejagkaaW.PrintLast Go.Proofs.YtcabapilejagkaaW.PrintMore
set_option linter.unusedVariables false
set_option linter.unusedSimpArgs false
def Blk (w : World) (g : Nat) (cs : Array Value) (t : TypeId) : Prop := w.heap[g]? = some (.cells cs t (0, 0))
theorem Blk.below {w w' : World} {g : Nat} {cs : Array Value} {t : TypeId} (h : Blk w g cs t) (hb : Below w.heap.size w w') : Blk w' g cs t := blk_below h hb
theorem Blk.cell {w : World} {g : Nat} {cs : Array Value} {t : TypeId} (h : Blk w g cs t) (i : Nat) : w.cell? ⟨g, i, none⟩ = cs[i]? := blk_cell h i
theorem Blk.new (w : World) (cs : Array Value) (t : TypeId) : Blk (w.alloc (.cells cs t)) w.heap.size cs t := blk_new w _
theorem Blk.alloc {w : World} {g : Nat} {cs : Array Value} {t : TypeId} (h : Blk w g cs t) (o : Obj) : Blk (w.alloc o) g cs t := blk_alloc h o
theorem Blk.at1 {w : World} (o : Obj) (cs : Array Value) (t : TypeId) : Blk ((w.alloc o).alloc (.cells cs t)) (w.heap.size + 1) cs t := by have := Blk.new (w.alloc o) cs t; simpa using this
abbrev kRsp := k144
def HR (w : World) (v : Value) (h : Hi) : Prop :=
  ∃ v5 v6 v7 v8, v = .agg #[.int .i64 h.f0, .int .u64 h.f1, .int .u64 h.f2, .int .u64 h.f3, .int .u64 h.f4, v5, v6, v7, v8] ∧ SI kRsp w v5 (h.f5.map toR) ∧ SI kRsp w v6 (h.f6.map toR) ∧ SI (Kd.int .i64) w v7 h.f7 ∧ SI (Kd.int .i64) w v8 h.f8
theorem HR.below {w w' : World} {v : Value} {h : Hi} (x : HR w v h) (hb : Below w.heap.size w w') : HR w' v h := by
  obtain ⟨v5, v6, v7, v8, e, h5, h6, h7, h8⟩ := x
  exact ⟨v5, v6, v7, v8, e, h5.below hb, h6.below hb, h7.below hb, h8.below hb⟩
theorem HR.open_ {w : World} {v : Value} {h : Hi} (x : HR w v h) : ∃ A5 c5 A6 c6 A7 c7 A8 c8, v = .agg #[.int .i64 h.f0, .int .u64 h.f1, .int .u64 h.f2, .int .u64 h.f3, .int .u64 h.f4, .slice A5 h.f5.length c5, .slice A6 h.f6.length c6, .slice A7 h.f7.length c7, .slice A8 h.f8.length c8] ∧
    SI kRsp w (.slice A5 h.f5.length c5) (h.f5.map toR) ∧ SI kRsp w (.slice A6 h.f6.length c6) (h.f6.map toR) ∧ SI (Kd.int .i64) w (.slice A7 h.f7.length c7) h.f7 ∧ SI (Kd.int .i64) w (.slice A8 h.f8.length c8) h.f8 := by
  obtain ⟨v5, v6, v7, v8, rfl, h5, h6, h7, h8⟩ := x
  obtain ⟨A5, c5, rfl, h51, h52⟩ := h5
  obtain ⟨A6, c6, rfl, h61, h62⟩ := h6
  obtain ⟨A7, c7, rfl, h71, h72⟩ := h7
  obtain ⟨A8, c8, rfl, h81, h82⟩ := h8
  rw [List.length_map]
  rw [List.length_map]
  refine ⟨A5, c5, A6, c6, A7, c7, A8, c8, rfl, ⟨A5, c5, by rw [List.length_map], h51, h52⟩, ⟨A6, c6, by rw [List.length_map], h61, h62⟩, .of h72 h71, .of h82 h81⟩
end Go.Proofs.Ytcabapilejagkaa.P
namespace Go.Proofs.Ytcabapilejagkaa.P
open Go.RowKit Go.Proofs.YtcabapilejagkaaW.PrintWords Go.Proofs.YtcabapilejagkaaW.PrintLast Go.Proofs.YtcabapilejagkaaW.PrintMore
attribute [local go_sem] max2_int min2_int max_two min_two max_three min_three max_four min_four
set_option linter.unusedVariables false
set_option linter.unusedSimpArgs false
def pairs_Pair_int64_94.l0 : Nat → List (S30) → Int → Int → Option ((List (S30)))
 | 0, _, _, _ => none
 | k + 1, x0, x2, x3 => if x2 < x3 then (if 0 ≤ x3 then (if x3 < (x0.length : Int) then (if 0 ≤ x2 then (if x2 < (x0.length : Int) then (pairs_Pair_int64_94.l0 k ((x0.set (x2 : Int).toNat (⟨(rd_T30 x0 x3).f0, (rd_T30 x0 x3).f1⟩ : S30)).set (x3 : Int).toNat (⟨(rd_T30 x0 x2).f0, (rd_T30 x0 x2).f1⟩ : S30)) (wrap64 (x2 + 1)) (wrap64 (x3 - 1))) else (none)) else (none)) else (none)) else (none)) else (some x0)
def pairs_Pair_int64_94.f (k : Nat) (l0 : List (S30)) : Option ((List (S30))) := pairs_Pair_int64_94.l0 k l0 0 (wrap64 ((l0.length : Int) - 1))
def pairs_Pair_int64_94.T3 : Bool × List (List Nat × List Nat) := (true, [([], []), ([], []), ([], []), ([], []), ([], []), ([], []), ([4, 5], [4, 5]), ([6], [6]), ([], []), ([], []), ([8, 9], [8, 9]), ([10], [10]), ([0, 1, 0, 1, 4, 5, 6, 7, 11], [0, 1]), ([12, 7, 0, 1, 4, 5, 6, 7, 11], [7, 12]), ([2, 3, 0, 1, 2, 3, 4, 5, 6, 7, 8, 9, 10, 11, 12, 13], [2, 3]), ([14, 11, 13, 0, 1, 2, 3, 4, 5, 6, 7, 8, 9, 10, 11, 12, 13], [11, 14])])
def pairs_Pair_int64_94.B3 : List Nat := [0, 0, 0, 0, 0, 0, 48, 112, 0, 0, 768, 1792, 4083, 8179, 16383, 32767]
theorem pairs_Pair_int64_94.tab3 : rtab .any (opsOf Try.f94 3) = pairs_Pair_int64_94.T3 := by kernel_rfl
theorem pairs_Pair_int64_94.bits3 : waitsOk pairs_Pair_int64_94.T3.2 pairs_Pair_int64_94.B3 = true := by kernel_rfl
set_option maxHeartbeats 8000000 in
set_option maxRecDepth 100000 in
theorem pairs_Pair_int64_94.calls (k : Nat) (P0_ : Nat → Prop) (u9000_ : Value) (l0 : List (S30)) (r : List (S30)) (w0 w : World) (hB : Below w0.heap.size w0 w) (ho0 : Kd.R k30 30 w w0.heap.size P0_ u9000_ l0) (h : pairs_Pair_int64_94.f k l0 = some r) :
  Calls Try.prog 94 #[u9000_] w fun e w' => e = .returned (.tuple #[]) ∧ Kd.R k30 30 w' w0.heap.size (fun k_ => (P0_ k_ ∨ w.heap.size ≤ k_)) u9000_ r ∧ Below w0.heap.size w0 w' ∧ Kept w w' (fun k_ => P0_ k_) := by
 have hu30 := Try.underlying30
 have HO0 := Aside0.mk (show Kd.R k30 30 w w0.heap.size (fun k_ => (P0_ k_ ∨ w.heap.size ≤ k_)) u9000_ l0 from Kd.R_mono ho0 (fun k_ hk => (.inl hk)))
 have HK := Aside0.mk (Kept.refl w (fun k_ => P0_ k_))
 have HW0 := Aside0.mk hB.size
 have HB := Aside0.mk hB
 clear hB
 have H : (pairs_Pair_int64_94.l0 k l0 0 (wrap64 ((l0.length : Int) - 1))) = some r := h
 clear h
 have H' := Aside0.mk H
 clear H
 obtain ⟨Ao2, co2, eo2⟩ := Kd.R_slice HO0.out
 subst eo2
 go_enter Try.func94, Try.ntmps94
 go_wp2
 go_loopg [2, 3] k (fun kq v2 v3 w' => ∃ (x0_1 : List (S30)) (x2_1 : Int) (x3_1 : Int), v2 = .int .i64 x2_1 ∧ v3 = .int .i64 x3_1 ∧ Aside0 (pairs_Pair_int64_94.l0 kq x0_1 x2_1 x3_1 = some r) ∧ Aside0 (kq ≤ k) ∧ Aside0 (Kd.R k30 30 w' w0.heap.size (fun k_ => (P0_ k_ ∨ w.heap.size ≤ k_)) (.slice Ao2 l0.length co2) x0_1) ∧ Aside0 (Kept w w' (fun k_ => P0_ k_)) ∧ Aside0 (Below w0.heap.size w0 w'))
 case atStart => exact ⟨(l0), (0), (wrap64 ((l0.length : Int) - 1)), (by first | rfl | (simp; done) | (simp [*]; done)), (by first | rfl | (simp; done) | (simp [*]; done)), H', ⟨Nat.le_refl _⟩, ⟨by (with_reducible repeat (first | apply Kd.R_alloc | apply Kd.R_drewN | apply Kd.R_drew)); exact HO0.out⟩, ⟨by repeat (first | (with_reducible first | exact HK.out | apply Kept.alloc | apply Kept.drewN | apply Kept.drew) | exact HK.out)⟩, ⟨by repeat (first | (with_reducible first | exact HB.out | apply below_alloc | apply pw_below_drewN | apply below_drew1) | exact HB.out)⟩⟩
 case round =>
  clear H'
  try clear p2
  obtain ⟨x0_1, x2_1, x3_1, rfl, rfl, HA, HK1, HO_0, HK, HB⟩ := hrel
  have hl0_1 := (Kd.R_reads' HO_0.out).1
  rw [hl0_1] at HO_0
  (try simp only [hl0_1])
  cases gk with
  | zero => exact absurd HA.out (by simp [pairs_Pair_int64_94.l0])
  | succ k1 =>
   have H := HA.out
   clear HA
   simp only [pairs_Pair_int64_94.l0] at H
   by_cases c3 : x2_1 < x3_1
   ·rw [if_pos c3] at H
    have c3b0 : decide (x2_1 < x3_1) = true := decide_eq_true c3
    clear c3
    by_cases c4 : 0 ≤ x3_1
    ·rw [if_pos c4] at H
     have c4b0 : decide (0 ≤ x3_1) = true := decide_eq_true c4
     clear c4
     by_cases c5 : x3_1 < (x0_1.length : Int)
     ·rw [if_pos c5] at H
      have c5b0 : decide (x3_1 < (x0_1.length : Int)) = true := decide_eq_true c5
      clear c5
      by_cases c6 : 0 ≤ x2_1
      ·rw [if_pos c6] at H
       have c6b0 : decide (0 ≤ x2_1) = true := decide_eq_true c6
       clear c6
       by_cases c7 : x2_1 < (x0_1.length : Int)
       ·rw [if_pos c7] at H
        have c7b0 : decide (x2_1 < (x0_1.length : Int)) = true := decide_eq_true c7
        clear c7
        obtain ⟨y103, hy103⟩ : ∃ y_ : List (S30), y_ = (x0_1.set (x2_1 : Int).toNat (⟨(rd_T30 x0_1 x3_1).f0, (rd_T30 x0_1 x3_1).f1⟩ : S30)) := ⟨_, rfl⟩
        replace H : (pairs_Pair_int64_94.l0 k1 (y103.set (x3_1 : Int).toNat (⟨(rd_T30 x0_1 x2_1).f0, (rd_T30 x0_1 x2_1).f1⟩ : S30)) (wrap64 (x2_1 + 1)) (wrap64 (x3_1 - 1))) = some r := by first | (rw [hy103]; with_reducible exact H) | (have H2_ := (Option.bind_some _ _).symm.trans H; rw [hy103]; with_reducible exact H2_) | (have H2_ := (Option.bind_some _ _).symm.trans H; with_reducible exact H2_) | with_reducible exact H | (rw [hy103]; exact H) | exact H
        have Ny103 := Aside0.mk hy103
        clear hy103
        obtain ⟨y104, hy104⟩ : ∃ y_ : List (S30), y_ = (y103.set (x3_1 : Int).toNat (⟨(rd_T30 x0_1 x2_1).f0, (rd_T30 x0_1 x2_1).f1⟩ : S30)) := ⟨_, rfl⟩
        replace H : (pairs_Pair_int64_94.l0 k1 y104 (wrap64 (x2_1 + 1)) (wrap64 (x3_1 - 1))) = some r := by first | (rw [hy104]; with_reducible exact H) | (have H2_ := (Option.bind_some _ _).symm.trans H; rw [hy104]; with_reducible exact H2_) | (have H2_ := (Option.bind_some _ _).symm.trans H; with_reducible exact H2_) | with_reducible exact H | (rw [hy104]; exact H) | exact H
        have Ny104 := Aside0.mk hy104
        clear hy104
        have H' := Aside0.mk H
        clear H
        have hne1_ : ¬ (x2_1.toNat * 2 = x3_1.toNat * 2) := by have h1_ := of_decide_eq_true c3b0; have h2_ := of_decide_eq_true c6b0; omega
        have hne2_ : ¬ (x3_1.toNat * 2 = x2_1.toNat * 2) := by have h1_ := of_decide_eq_true c3b0; have h2_ := of_decide_eq_true c6b0; omega
        have hne3_ : ¬ (x3_1.toNat = x2_1.toNat) := by have h1_ := of_decide_eq_true c3b0; have h2_ := of_decide_eq_true c6b0; omega
        have hne4_ : ¬ (x2_1.toNat = x3_1.toNat) := by have h1_ := of_decide_eq_true c3b0; have h2_ := of_decide_eq_true c6b0; omega
        try go_wp2
        have n0_ := Aside0.mk (Kd.R_drew HO_0.out)
        have n1_ := Aside0.mk (Kept.drew HK.out)
        have n2_ := Aside0.mk (below_drew1 HB.out)
        clear HO_0
        clear HK
        clear HB
        have HO_0 := n0_
        have HK := n1_
        have HB := n2_
        clear n0_ n1_ n2_
        have p101 : 0 ≤ (x3_1 : Int) := of_decide_eq_true (by first | (with_reducible assumption) | assumption)
        have q101 : x3_1 < (x0_1.length : Int) := of_decide_eq_true (by first | (with_reducible assumption) | assumption)
        obtain ⟨ad101, e101, hx101_0, hx101_1⟩ := at_T30 (Kd.R_reads' HO_0.out).2.2 x3_1 p101 q101
        cases e101
        replace p101 := eq_true p101
        replace q101 := eq_true q101
        have p102 : 0 ≤ (x2_1 : Int) := of_decide_eq_true (by first | (with_reducible assumption) | assumption)
        have q102 : x2_1 < (x0_1.length : Int) := of_decide_eq_true (by first | (with_reducible assumption) | assumption)
        obtain ⟨ad102, e102, hx102_0, hx102_1⟩ := at_T30 (Kd.R_reads' HO_0.out).2.2 x2_1 p102 q102
        obtain rfl : ad101 = ad102 := (by injection e102)
        replace p102 := eq_true p102
        replace q102 := eq_true q102
        have p8 : 0 ≤ (x2_1 : Int) := of_decide_eq_true (by first | (with_reducible assumption) | assumption)
        have q8 : (x2_1 : Int) < ((x0_1.length : Int) : Int) := of_decide_eq_true (by first | (with_reducible assumption) | assumption)
        obtain ⟨go8, co8, eo8, gb8, gl8, cl8, HG8⟩ := Kd.R_form HO_0.out (by omega)
        (first | cases eo8 | (injection eo8 with ea_ en_ ec_; (first | subst ea_ | (injection ea_ with ea_; subst ea_)); subst ec_; clear en_))
        have GB8 := Aside0.mk gb8
        have GG8 := Aside0.mk HG8
        clear gb8 gl8 HG8
        have HMgo8 := Aside0.mk (show (P0_ go8 ∨ w.heap.size ≤ go8) from (HO_0.out.1 _ rfl))
        (first | simp only [add_plain] at hx101_0 | skip)
        (first | simp only [add_plain] at hx101_1 | skip)
        (first | simp only [add_plain] at hx102_0 | skip)
        (first | simp only [add_plain] at hx102_1 | skip)
        obtain ⟨ce8, hcl8, hM8, hcc8, hfr8⟩ := Kd.R_elem HO_0.out z30 (x2_1 : Int) p8 q8
        obtain rfl := k30_openM hM8
        have hx8_0 : World.cell? _ ⟨go8, (x2_1 : Int).toNat * 2, none⟩ = some (.int .i64 ((rd_T30 x0_1 x2_1).f0)) := hcc8 0 _ rfl
        have hx8_1 : World.cell? _ ⟨go8, (x2_1 : Int).toNat * 2 + 1, none⟩ = some (.int .i64 ((rd_T30 x0_1 x2_1).f1)) := hcc8 1 _ rfl
        have hf8_0 : World.frozen? _ ⟨go8, (x2_1 : Int).toNat * 2, none⟩ = false := hfr8 0
        have hf8_1 : World.frozen? _ ⟨go8, (x2_1 : Int).toNat * 2 + 1, none⟩ = false := hfr8 1
        clear hcl8 hcc8 hfr8 hM8
        replace p8 := eq_true p8
        replace q8 := eq_true q8
        obtain ⟨ce7_, -, -, -, hfr7_⟩ := Kd.R_elem HO_0.out z30 (x3_1 : Int) (of_decide_eq_true c4b0) (of_decide_eq_true c5b0)
        have hf7_0 : World.frozen? _ ⟨go8, (x3_1 : Int).toNat * 2, none⟩ = false := hfr7_ 0
        have hf7_1 : World.frozen? _ ⟨go8, (x3_1 : Int).toNat * 2 + 1, none⟩ = false := hfr7_ 1
        clear hfr7_
        obtain ⟨ce11, hcl11, hM11, hcc11, hfr11⟩ := Kd.R_elem HO_0.out z30 (x2_1 : Int) (of_decide_eq_true (by first | (with_reducible assumption) | assumption)) (by have h_ : (x2_1 : Int) < ((x0_1.length : Int) : Int) := of_decide_eq_true (by first | (with_reducible assumption) | assumption); first | exact h_ | (have e_ := (Kd.R_reads' HO_0.out).1; omega) | simpa using h_)
        obtain rfl := k30_openM hM11
        have HP11 := (Kd.R_seg HO_0.out (x2_1 : Int) (of_decide_eq_true (by first | (with_reducible assumption) | assumption)) (by have h_ : (x2_1 : Int) < ((x0_1.length : Int) : Int) := of_decide_eq_true (by first | (with_reducible assumption) | assumption); first | exact h_ | (have e_ := (Kd.R_reads' HO_0.out).1; omega) | simpa using h_) (seg := [.int .i64 ((rd_T30 x0_1 x3_1).f0), .int .i64 ((rd_T30 x0_1 x3_1).f1)]) (j := 0) hcl11 hcc11 (show 2 ≤ 2 from by decide) (x' := (⟨(rd_T30 x0_1 x3_1).f0, (rd_T30 x0_1 x3_1).f1⟩ : S30)) (k30_mkM _ _ _ (⟨(rd_T30 x0_1 x3_1).f0, (rd_T30 x0_1 x3_1).f1⟩ : S30) ) (fun _ hk => hk)).1
        rw [← Ny103.out] at HP11
        have HQ11 := Aside0.mk HP11
        clear hcl11 hcc11 hfr11 hM11 HP11
        have p9 : 0 ≤ (x3_1 : Int) := of_decide_eq_true (by first | (with_reducible assumption) | assumption)
        have q9 : (x3_1 : Int) < ((x0_1.length : Int) : Int) := of_decide_eq_true (by first | (with_reducible assumption) | assumption)
        obtain ⟨ce9, hcl9, hM9, hcc9, hfr9⟩ := Kd.R_elem HQ11.out z30 (x3_1 : Int) p9 q9
        obtain rfl := k30_openM hM9
        have hx9_0 : World.cell? _ ⟨go8, (x3_1 : Int).toNat * 2, none⟩ = some (.int .i64 ((rd_T30 y103 x3_1).f0)) := hcc9 0 _ rfl
        have hx9_1 : World.cell? _ ⟨go8, (x3_1 : Int).toNat * 2 + 1, none⟩ = some (.int .i64 ((rd_T30 y103 x3_1).f1)) := hcc9 1 _ rfl
        have hf9_0 : World.frozen? _ ⟨go8, (x3_1 : Int).toNat * 2, none⟩ = false := hfr9 0
        have hf9_1 : World.frozen? _ ⟨go8, (x3_1 : Int).toNat * 2 + 1, none⟩ = false := hfr9 1
        clear hcl9 hcc9 hfr9 hM9
        replace p9 := eq_true p9
        replace q9 := eq_true q9
        obtain ⟨ce12, hcl12, hM12, hcc12, hfr12⟩ := Kd.R_elem HQ11.out z30 (x3_1 : Int) (of_decide_eq_true (by first | (with_reducible assumption) | assumption)) (by have h_ : (x3_1 : Int) < ((x0_1.length : Int) : Int) := of_decide_eq_true (by first | (with_reducible assumption) | assumption); first | exact h_ | (have e_ := (Kd.R_reads' HO_0.out).1; omega) | simpa using h_)
        obtain rfl := k30_openM hM12
        have HP12 := (Kd.R_seg HQ11.out (x3_1 : Int) (of_decide_eq_true (by first | (with_reducible assumption) | assumption)) (by have h_ : (x3_1 : Int) < ((x0_1.length : Int) : Int) := of_decide_eq_true (by first | (with_reducible assumption) | assumption); first | exact h_ | (have e_ := (Kd.R_reads' HO_0.out).1; omega) | simpa using h_) (seg := [.int .i64 ((rd_T30 x0_1 x2_1).f0), .int .i64 ((rd_T30 x0_1 x2_1).f1)]) (j := 0) hcl12 hcc12 (show 2 ≤ 2 from by decide) (x' := (⟨(rd_T30 x0_1 x2_1).f0, (rd_T30 x0_1 x2_1).f1⟩ : S30)) (k30_mkM _ _ _ (⟨(rd_T30 x0_1 x2_1).f0, (rd_T30 x0_1 x2_1).f1⟩ : S30) ) (fun _ hk => hk)).1
        rw [← Ny104.out] at HP12
        have HQ12 := Aside0.mk HP12
        clear hcl12 hcc12 hfr12 hM12 HP12
        refine start_ (n := 16) (S := fun w' => w'.cell? ⟨go8, ((x3_1).toNat * 2), none⟩ = some (.int .i64 ((rd_T30 x0_1 x3_1).f0)) ∧ w'.cell? ⟨go8, ((x3_1).toNat * 2) + 1, none⟩ = some (.int .i64 ((rd_T30 x0_1 x3_1).f1)) ∧ w'.cell? ⟨go8, ((x2_1).toNat * 2), none⟩ = some (.int .i64 ((rd_T30 x0_1 x2_1).f0)) ∧ w'.cell? ⟨go8, ((x2_1).toNat * 2) + 1, none⟩ = some (.int .i64 ((rd_T30 x0_1 x2_1).f1))) (ds := [13, 15]) #[false, false, false, false, false, false, false, false, false, false, false, false, false, false, false, false] (by kernel_rfl) rfl rfl ⟨hx101_0, hx101_1, hx102_0, hx102_1⟩ (fun hHeld => ?_); refine with_tabW pairs_Pair_int64_94.tab3 pairs_Pair_int64_94.bits3 (fun HT_ HW_ => ?_)
        generalize wr.drew = w10 at HO_0 HK HB GG8 HQ11 HQ12 hf8_0 hf8_1 hf9_0 hf9_1 hf7_0 hf7_1 hx101_0 hx101_1 hx102_0 hx102_1 hx8_0 hx8_1 hx9_0 hx9_1 hHeld ⊢
        refine pure_ (i := 0) (N := some 14) (v := ?_) (a' := ?_) #[true, false, false, false, false, false, false, false, false, false, false, false, false, false, false, false] rfl rfl (any_of HT_.out (by kernel_rfl)) (fun _ _ _ h => h) (Or.inl ⟨by rfl, ?_⟩) ?_ ?_
        rotate_left
        ·intro w'
         go_simp
         with_reducible rfl
        rotate_left
        ·simp only [Act.put, List.setIfInBounds_toArray, List.set_cons_zero, List.set_cons_succ, i64_w, i32_w]
         rfl
        refine pure_ (i := 1) (N := some 15) (v := ?_) (a' := ?_) #[true, true, false, false, false, false, false, false, false, false, false, false, false, false, false, false] rfl rfl (any_of HT_.out (by kernel_rfl)) (fun _ _ _ h => h) (Or.inl ⟨by rfl, ?_⟩) ?_ ?_
        rotate_left
        ·intro w'
         go_simp
         with_reducible rfl
        rotate_left
        ·simp only [Act.put, List.setIfInBounds_toArray, List.set_cons_zero, List.set_cons_succ, i64_w, i32_w]
         rfl
        refine pure_ (i := 2) (N := some 16) (v := ?_) (a' := ?_) #[true, true, true, false, false, false, false, false, false, false, false, false, false, false, false, false] rfl rfl (any_of HT_.out (by kernel_rfl)) (fun _ _ _ h => h) (Or.inl ⟨by rfl, ?_⟩) ?_ ?_
        rotate_left
        ·intro w'
         go_simp
         with_reducible rfl
        rotate_left
        ·simp only [Act.put, List.setIfInBounds_toArray, List.set_cons_zero, List.set_cons_succ, i64_w, i32_w]
         rfl
        refine pure_ (i := 3) (N := some 17) (v := ?_) (a' := ?_) #[true, true, true, true, false, false, false, false, false, false, false, false, false, false, false, false] rfl rfl (any_of HT_.out (by kernel_rfl)) (fun _ _ _ h => h) (Or.inl ⟨by rfl, ?_⟩) ?_ ?_
        rotate_left
        ·intro w'
         go_simp
         with_reducible rfl
        rotate_left
        ·simp only [Act.put, List.setIfInBounds_toArray, List.set_cons_zero, List.set_cons_succ, i64_w, i32_w]
         rfl
        refine pure_ (i := 4) (N := some 18) (v := ?_) (a' := ?_) #[true, true, true, true, true, false, false, false, false, false, false, false, false, false, false, false] rfl rfl (any_of HT_.out (by kernel_rfl)) (fun _ _ _ h => h) (Or.inl ⟨by rfl, ?_⟩) ?_ ?_
        rotate_left
        ·intro w'
         go_simp
         with_reducible rfl
        rotate_left
        ·simp only [Act.put, List.setIfInBounds_toArray, List.set_cons_zero, List.set_cons_succ, i64_w, i32_w]
         rfl
        refine pure_ (i := 5) (N := some 19) (v := ?_) (a' := ?_) #[true, true, true, true, true, true, false, false, false, false, false, false, false, false, false, false] rfl rfl (any_of HT_.out (by kernel_rfl)) (fun _ _ _ h => h) (Or.inl ⟨by rfl, ?_⟩) ?_ ?_
        rotate_left
        ·intro w'
         go_simp
         with_reducible rfl
        rotate_left
        ·simp only [Act.put, List.setIfInBounds_toArray, List.set_cons_zero, List.set_cons_succ, i64_w, i32_w]
         rfl
        refine pure_ (i := 6) (N := some 20) (v := ?_) (a' := ?_) #[true, true, true, true, true, true, true, false, false, false, false, false, false, false, false, false] rfl rfl (any_of HT_.out (by kernel_rfl)) (fun _ _ _ h => h) (Or.inl ⟨by rfl, ?_⟩) ?_ ?_
        rotate_left
        ·intro w'
         go_simp
         with_reducible rfl
        rotate_left
        ·simp only [Act.put, List.setIfInBounds_toArray, List.set_cons_zero, List.set_cons_succ, i64_w, i32_w]
         rfl
        refine pure_ (i := 8) (N := some 22) (v := ?_) (a' := ?_) #[true, true, true, true, true, true, true, false, true, false, false, false, false, false, false, false] rfl rfl (any_of HT_.out (by kernel_rfl)) (fun _ _ _ h => h) (Or.inl ⟨by rfl, ?_⟩) ?_ ?_
        rotate_left
        ·intro w'
         go_simp
         with_reducible rfl
        rotate_left
        ·simp only [Act.put, List.setIfInBounds_toArray, List.set_cons_zero, List.set_cons_succ, i64_w, i32_w]
         rfl
        refine pure_ (i := 9) (N := some 23) (v := ?_) (a' := ?_) #[true, true, true, true, true, true, true, false, true, true, false, false, false, false, false, false] rfl rfl (any_of HT_.out (by kernel_rfl)) (fun _ _ _ h => h) (Or.inl ⟨by rfl, ?_⟩) ?_ ?_
        rotate_left
        ·intro w'
         go_simp
         with_reducible rfl
        rotate_left
        ·simp only [Act.put, List.setIfInBounds_toArray, List.set_cons_zero, List.set_cons_succ, i64_w, i32_w]
         rfl
        refine pure_ (i := 10) (N := some 24) (v := ?_) (a' := ?_) #[true, true, true, true, true, true, true, false, true, true, true, false, false, false, false, false] rfl rfl (any_of HT_.out (by kernel_rfl)) (fun _ _ _ h => h) (Or.inl ⟨by rfl, ?_⟩) ?_ ?_
        rotate_left
        ·intro w'
         go_simp
         with_reducible rfl
        rotate_left
        ·simp only [Act.put, List.setIfInBounds_toArray, List.set_cons_zero, List.set_cons_succ, i64_w, i32_w]
         rfl
        refine take_ (i := 7) (N := some 21) (v := ?_) (a' := ?_) #[true, true, true, true, true, true, true, true, true, true, true, false, false, false, false, false] rfl rfl (take_ofW HT_.out HW_.out (by kernel_rfl)) (fun _ _ _ h => h) (Or.inl ⟨by rfl, ?_⟩) hHeld ?_ ?_
        rotate_left
        ·rintro w' ⟨s0, s1, s2, s3⟩
         go_simp
         with_reducible rfl
        rotate_left
        ·simp only [Act.put, List.setIfInBounds_toArray, List.set_cons_zero, List.set_cons_succ, i64_w, i32_w]
         rfl
        refine take_ (i := 11) (N := some 25) (v := ?_) (a' := ?_) #[true, true, true, true, true, true, true, true, true, true, true, true, false, false, false, false] rfl rfl (take_ofW HT_.out HW_.out (by kernel_rfl)) (fun _ _ _ h => h) (Or.inl ⟨by rfl, ?_⟩) hHeld ?_ ?_
        rotate_left
        ·rintro w' ⟨s0, s1, s2, s3⟩
         go_simp
         with_reducible rfl
        rotate_left
        ·simp only [Act.put, List.setIfInBounds_toArray, List.set_cons_zero, List.set_cons_succ, i64_w, i32_w]
         rfl
        refine pure_ (i := 12) (N := some 26) (v := ?_) (a' := ?_) #[true, true, true, true, true, true, true, true, true, true, true, true, true, false, false, false] rfl rfl (any_of HT_.out (by kernel_rfl)) (fun _ _ _ h => h) (Or.inl ⟨by rfl, ?_⟩) ?_ ?_
        rotate_left
        ·intro w'
         go_simp
         with_reducible rfl
        rotate_left
        ·simp only [Act.put, List.setIfInBounds_toArray, List.set_cons_zero, List.set_cons_succ, i64_w, i32_w]
         rfl
        refine last_ (i := 13) (N := none) #[true, true, true, true, true, true, true, true, true, true, true, true, true, true, false, false] rfl rfl (one_of HT_.out (by kernel_rfl)) (by decide) (fun K hK => ?_)
        refine skip_ (w1 := ?_) (by rfl) rfl ?_ ?_
        rotate_left
        ·go_simp
         rfl
        refine hK.out _ _ ?_
        clear hK K
        refine pure_ (i := 14) (N := some 27) (v := ?_) (a' := ?_) #[true, true, true, true, true, true, true, true, true, true, true, true, true, true, true, false] rfl rfl (any_of HT_.out (by kernel_rfl)) (fun _ _ _ h => h) (Or.inl ⟨by rfl, ?_⟩) ?_ ?_
        rotate_left
        ·intro w'
         go_simp
         with_reducible rfl
        rotate_left
        ·simp only [Act.put, List.setIfInBounds_toArray, List.set_cons_zero, List.set_cons_succ, i64_w, i32_w]
         rfl
        refine last_ (i := 15) (N := none) #[true, true, true, true, true, true, true, true, true, true, true, true, true, true, true, true] rfl rfl (one_of HT_.out (by kernel_rfl)) (by decide) (fun K hK => ?_)
        refine skip_ (w1 := ?_) (by rfl) rfl ?_ ?_
        rotate_left
        ·go_simp
         rfl
        refine hK.out _ _ ?_
        clear hK K
        refine done_ (done_of HT_.out (by kernel_rfl)) ?_
        try go_wp2
        (try simp only [← hl0_1])
        go_roundg k1
        case measure => have := HK1.out; omega
        case rel => exact ⟨(y104), (wrap64 (x2_1 + 1)), (wrap64 (x3_1 - 1)), (by first | rfl | (simp; done) | (simp [*]; done)), (by first | rfl | (simp; done) | (simp [*]; done)), H', ⟨by have := HK1.out; omega⟩, ⟨by (try simp only [hl0_1]); (with_reducible repeat (first | apply Kd.R_alloc | apply Kd.R_drewN | apply Kd.R_drew)); exact HQ12.out⟩, ⟨by repeat (first | (with_reducible first | exact HK.out | apply Kept.alloc | apply Kept.drewN | apply Kept.drew | refine Kept.setCell ?_ HMgo8.out _ | refine Kept.setCell ?_ HMgo8.out _ | refine Kept.setCell ?_ HMgo8.out _ | refine Kept.setCell ?_ HMgo8.out _) | exact HK.out)⟩, ⟨by repeat (first | (with_reducible first | exact HB.out | apply below_alloc | apply pw_below_drewN | apply below_drew1 | refine below_set ?_ GB8.out | refine below_set ?_ GB8.out | refine below_set ?_ GB8.out | refine below_set ?_ GB8.out) | exact HB.out)⟩⟩
       ·rw [if_neg c7] at H
        exact absurd H (by simp)
      ·rw [if_neg c6] at H
       exact absurd H (by simp)
     ·rw [if_neg c5] at H
      exact absurd H (by simp)
    ·rw [if_neg c4] at H
     exact absurd H (by simp)
   ·rw [if_neg c3] at H
    have c3b0 : decide (x2_1 < x3_1) = false := decide_eq_false c3
    clear c3
    obtain rfl := Option.some.inj H
    go_wp2
    first | go_end0 | ((try simp only [Exit.inBlock, Exit.then]); refine bodyPost_ret (results_none rfl _ _ _) rfl ?_)
    exact ⟨by first | rfl | (simp [errW_none, errW_some] <;> rfl) | (simp [*, errW_none, errW_some] <;> rfl), (by first | exact (by (with_reducible repeat (first | apply Kd.R_alloc | apply Kd.R_drewN | apply Kd.R_drew)); exact HO_0.out) | (simp only [hl0_1]; exact (by (with_reducible repeat (first | apply Kd.R_alloc | apply Kd.R_drewN | apply Kd.R_drew)); exact HO_0.out))), by repeat (first | (with_reducible first | exact HB.out | apply below_alloc | apply pw_below_drewN | apply below_drew1) | exact HB.out), by repeat (first | (with_reducible first | exact HK.out | apply Kept.alloc | apply Kept.drewN | apply Kept.drew) | exact HK.out)⟩
end Go.Proofs.Ytcabapilejagkaa.P
namespace Go.Proofs.Ytcabapilejagkaa.P
open Go.RowKit Go.Shelf Go.Proofs.YtcabapilejagkaaW.PrintWords Go.Proofs.YtcabapilejagkaaW.PrintLast Go.Proofs.YtcabapilejagkaaW.PrintMore
set_option linter.unusedVariables false
set_option linter.unusedSimpArgs false
attribute [local go_sem] Oper.semAt_some
structure Bk where
  s : Int
  p : Int
  n : Int
  deriving DecidableEq
def encB (b : Bk) : Value := .agg #[.int .i64 b.s, .int .i64 b.p, .int .u64 b.n]
def segW (side : Int) (l : List Pr) : List Bk := (l.filter (fun q : Pr => decide (0 < q.f1))).map (fun q : Pr => ⟨side, q.f0, q.f1⟩)
theorem segW_snoc (side : Int) (l : List Pr) (q : Pr) : segW side (l ++ [q]) = segW side l ++ (if 0 < q.f1 then [⟨side, q.f0, q.f1⟩] else []) := by
  unfold segW
  rw [List.filter_append, List.map_append]
  by_cases h : 0 < q.f1
  · rw [if_pos h, List.filter_cons, if_pos (by simpa using h)]; rfl
  · rw [if_neg h, List.filter_cons, if_neg (by simpa using h)]; rfl
def toldW (h : Hi) : List Bk := if checkR h = 0 then segW 1 (openR h).2.1.reverse ++ ((if h.f2 = 0 then [] else [⟨2, 0, h.f2⟩]) ++ segW 0 (openR h).1) else []
def KeepC (n0 : Nat) (A B : World) : Prop := A.heap.size ≤ B.heap.size ∧ ∀ q cs t fr, n0 ≤ q → A.heap[q]? = some (.cells cs t fr) → B.heap[q]? = some (.cells cs t fr)
theorem KeepC.refl (n0 : Nat) (A : World) : KeepC n0 A A := ⟨Nat.le_refl _, fun _ _ _ _ _ h => h⟩
theorem KeepC.trans {n0 : Nat} {A B C : World} (h : KeepC n0 A B) (k : KeepC n0 B C) : KeepC n0 A C := ⟨Nat.le_trans h.1 k.1, fun q cs t fr h0 h1 => k.2 q cs t fr h0 (h.2 q cs t fr h0 h1)⟩
theorem KeepC.of_below {n0 : Nat} {A B : World} (h : Below A.heap.size A B) : KeepC n0 A B := ⟨h.size, fun q cs t fr _ h1 => (h.block q (Array.getElem?_eq_some_iff.1 h1).1).trans h1⟩
theorem KeepC.put {n0 : Nat} (W : World) (l : Nat) (o o' : Obj) (h : W.heap[l]? = some o) (hc : o.isCells = false) : KeepC n0 W (W.putObj l o') := by
  have hg := grownBy_putObj' W l o'
  refine ⟨hg.size, fun k cs t fr h0 h1 => (hg.block k ((Array.getElem?_eq_some_iff.1 h1).1) (fun e => ?_)).trans h1⟩
  injection e with e
  subst e
  rw [h] at h1
  injection h1 with h1
  subst h1
  cases hc
theorem KeepC.setCell {n0 g i : Nat} (W : World) (hg : g < n0) (u : Value) : KeepC n0 W (W.setCell ⟨g, i, none⟩ u) :=
  ⟨by simp [World.setCell], fun q cs t fr h0 h1 => (Below.heap_setCell W ⟨g, i, none⟩ u q (by show q ≠ g; omega)).trans h1⟩
theorem KeepC.blk {n0 : Nat} {A B : World} (k : KeepC n0 A B) {g : Nat} {cs : Array Value} {t : TypeId} (hg : n0 ≤ g) (h : Blk A g cs t) : Blk B g cs t := k.2 g cs t (0, 0) hg h
def RowW (n0 : Nat) (W : World) (v : Value) (l : List Pr) : Prop := Kd.R kPr 30 W n0 (fun _ => True) v l
theorem RowW.keep {n0 : Nat} {A B : World} {v : Value} {l : List Pr} (h : RowW n0 A v l) (k : KeepC n0 A B) : RowW n0 B v l := by
  have hs : Kd.R kPr 30 A n0 (fun q => v.ownBlock = some q) v l := ⟨fun q hq => hq, h.2.imp_ (fun x cs hx => by rw [k30_openM hx]; exact k30_mkM _ _ _ x)⟩
  refine Kd.R_mono (Kd.R_step hs (fun q hq hlt => ?_)) (fun _ _ => trivial)
  obtain ⟨cells, hc⟩ := Kd.R_typed h q hq
  exact (k.2 q cells 30 (0, 0) (Kd.R_base h q hq) hc).trans hc.symm
theorem yield_wide {m m' : Nat} {P : Program} {l : Nat} {args : Array Value} {W : World} {R : Ending → World → Prop} (h : YieldAt Fence.wide m P l args W R) : YieldAt Fence.wide m' P l args W R := by
  obtain ⟨fn, t, a, b, h1, h2, h3⟩ := h
  exact ⟨fn, t, a, b, h1, h2, fun c cs _ => h3 c cs (room_wide _)⟩
set_option maxRecDepth 100000 in
set_option maxHeartbeats 4000000 in
theorem tell_in (n : Nat) (hn : 1 ≤ n) (L n0 b5 : Nat) (T : List Bk) (side : Int) (v : Value) (l : List Pr) (i0 : Nat) (J Jx : Nat → World → Prop)
    (hT : ∀ j, j < (segW side l).length → T[i0 + j]? = (segW side l)[j]?) (hw : ∀ q ∈ l, i64 q.f1)
    (hJ : ∀ i W W', J i W → W.grownBy W' none → J i W')
    (hY : ∀ i W, J i W → ∀ x, T[i]? = some x → YieldAt Fence.wide (n - 1) Try.prog L #[encB x] W fun e W' =>
      (e = .returned (.bool true) ∧ J (i + 1) W' ∧ KeepC n0 W W') ∨ (e = .returned (.bool false) ∧ Jx (i + 1) W'))
    (W : World) (hb : Blk W b5 #[.func (.yield L) #[] #[]] 148) (h5 : n0 ≤ b5) (hR : RowW n0 W v l) (h0 : J i0 W) :
    CallsIn Fence.wide n Try.prog 96 #[.int .i64 side, v, .pointer (some ⟨b5, 0, none⟩)] W fun e W' =>
      (e = .returned (.bool true) ∧ J (i0 + (segW side l).length) W' ∧ KeepC n0 W W') ∨ (e = .returned (.bool false) ∧ ∃ i, Jx i W') := by
  have hu := Try.underlying30
  obtain ⟨A, c, rfl, hlc, hC⟩ := Kd.R_reads hR
  have hm : l.length ≤ 9223372036854775807 := hC.2.1
  have HT := Aside0.mk hT
  have HW := Aside0.mk hw
  have HJ := Aside0.mk hJ
  have HY := Aside0.mk hY
  have HR := Aside0.mk hR
  have HB := Aside0.mk hb
  have H0 := Aside0.mk h0
  clear hT hw hJ hY hR hb h0 hC
  refine callsIn_of_wp Try.func96 rfl trivial ?_ rfl
  simp only [Try.ntmps96, List.size_toArray, List.length_cons, List.length_nil, Nat.reduceAdd, Nat.reduceSub, Array.replicate_succ, Array.replicate_zero, List.push_toArray, List.append_toArray, List.nil_append, List.cons_append]
  gi_wp2
  gi_loopw [10] (fun s10 wr => ∃ kk : Nat, kk ≤ l.length ∧ s10 = .int .i64 kk ∧ Aside0 (KeepC n0 W wr) ∧ Aside0 (J (i0 + (segW side (l.take kk)).length) wr)) (fun s10 _ => l.length - (intOf s10).toNat)
  case atStart => exact ⟨0, Nat.zero_le _, rfl, ⟨KeepC.refl _ _⟩, ⟨by simpa [segW] using H0.out⟩⟩
  case round =>
    obtain ⟨kk, hkk, rfl, HK, HJ0⟩ := hrel
    clear H0
    by_cases hlt : kk < l.length
    · have hlti : (kk : Int) < (l.length : Int) := by omega
      have HRW := Aside0.mk (HR.out.keep HK.out)
      have hC := (Kd.R_reads' HRW.out).2.2
      obtain ⟨ad, e1, hx0, hx1⟩ := at_T30 hC kk (by omega) (by omega)
      cases e1
      clear hC
      have hrd : rd_T30 l (kk : Int) = l[kk] := rdPr_at hlt
      rw [hrd, Int.toNat_natCast] at hx0 hx1
      have htk := segW_snoc side (l.take kk) l[kk]
      rw [← List.take_succ_eq_append_getElem hlt] at htk
      have hy64 := HW.out l[kk] (List.getElem_mem hlt)
      -- the place of what is told next
      have hnx : 0 < l[kk].f1 → T[i0 + (segW side (l.take kk)).length]? = some ⟨side, l[kk].f0, l[kk].f1⟩ := fun hp => by
        have hd : segW side l = segW side (l.take (kk + 1)) ++ segW side (l.drop (kk + 1)) := by
          conv => lhs; rw [← List.take_append_drop (kk + 1) l]
          unfold segW; rw [List.filter_append, List.map_append]
        rw [htk, if_pos hp] at hd
        rw [HT.out _ (by rw [hd]; simp), hd]
        simp
      have HNX := Aside0.mk hnx
      have HTK := Aside0.mk htk
      generalize l[kk] = y at hx0 hx1 HTK HNX hrd hy64
      clear hrd hnx htk
      have HBW := Aside0.mk (HK.out.blk h5 HB.out)
      by_cases hp : 0 < y.f1
      · have hp' : decide (0 < y.f1) = true := decide_eq_true hp
        have hcv : IntKind.u64.wrap y.f1 = y.f1 := by
          have h_ : IntKind.u64.wrap y.f1 = y.f1 % 18446744073709551616 := rfl
          have h2_ := hy64.2
          rw [h_]; omega
        have HX := Aside0.mk (HNX.out hp)
        rw [if_pos hp] at HTK
        have HJ1 := Aside0.mk (HJ.out _ _ _ HJ0.out (grown_of_below (below_alloc (Below.refl _ wr) (.cells #[.int .i64 y.f0, .int .i64 y.f1] 30)) none))
        have HKA := Aside0.mk (HK.out.trans (KeepC.of_below (below_alloc (Below.refl _ wr) (.cells #[.int .i64 y.f0, .int .i64 y.f1] 30))))
        have hbx := (HBW.out.alloc (.cells #[.int .i64 y.f0, .int .i64 y.f1] 30)).cell 0
        obtain ⟨fn, tmps, assign, body, hy, hRd⟩ := HY.out _ _ HJ1.out _ HX.out
        unfold encB at hy
        have HRR := Aside0.mk hRd
        clear hRd HJ0 HX HNX hp
        gi_wp2
        refine HRR.out.mono ?_
        rintro e W3 (⟨rfl, hJ3, hk3⟩ | ⟨rfl, hJx3⟩)
        · have HJ3 := Aside0.mk hJ3
          have HK3 := Aside0.mk (HKA.out.trans hk3)
          clear hJ3 hk3
          gi_wp2
          go_roundw
          case rel => exact ⟨kk + 1, by omega, by go_num, HK3, ⟨by rw [HTK.out, List.length_append]; exact HJ3.out⟩⟩
          case measure => simp [intOf]; omega
        · have HX := Aside0.mk hJx3
          clear hJx3
          gi_wp2
          go_ret
          exact .inr ⟨rfl, _, HX.out⟩
      · have hp' : decide (0 < y.f1) = false := decide_eq_false hp
        rw [if_neg hp, List.append_nil] at HTK
        have HJ1 := Aside0.mk (HJ.out _ _ _ HJ0.out (grown_of_below (below_alloc (Below.refl _ wr) (.cells #[.int .i64 y.f0, .int .i64 y.f1] 30)) none))
        have HKA := Aside0.mk (HK.out.trans (KeepC.of_below (below_alloc (Below.refl _ wr) (.cells #[.int .i64 y.f0, .int .i64 y.f1] 30))))
        clear HJ0 HNX
        gi_wp2
        refine ⟨fun f h => (by cases h), ?_⟩
        gi_wp2
        go_roundw
        case rel => exact ⟨kk + 1, by omega, by go_num, HKA, ⟨by rw [HTK.out]; exact HJ1.out⟩⟩
        case measure => simp [intOf]; omega
    · have hlti : ¬ (kk : Int) < (l.length : Int) := by omega
      have hk : l.take kk = l := List.take_of_length_le (by omega)
      have HKK := Aside0.mk hk
      clear hk
      gi_wp2
      go_ret
      have hj := HJ0.out
      rw [HKK.out] at hj
      exact .inl ⟨rfl, hj, HK.out⟩
end Go.Proofs.Ytcabapilejagkaa.P
namespace Go.Proofs.Ytcabapilejagkaa.P
open Go.RowKit Go.Shelf Go.Proofs.YtcabapilejagkaaW.PrintWords Go.Proofs.YtcabapilejagkaaW.PrintLast Go.Proofs.YtcabapilejagkaaW.PrintMore
set_option linter.unusedVariables false
set_option linter.unusedSimpArgs false
theorem SI.V {w : World} {e : Nat} {A : Option Addr} {c : Nat} {l : List Int} (hc : l.length ≤ c) (hr : (Kd.int .i64).C w A l.length l) : Kd.V (Kd.int .i64) e w w.heap.size (fun k_ => (fun k => k < w.heap.size) k_) (.slice A l.length c) l := ⟨_, _, rfl, hc, Kd.C_F (Kd.heap_int .i64) hr⟩
def headE (h : Hi) : Int := if h.f0 < -4 ∨ h.f0 > 8 then 21 else if ¬ h.f1 < 9218868437227405312 then 11 else 0
theorem checkR_eq (h : Hi) : checkR h = if headE h ≠ 0 then headE h else if (sideRes h.f5 h.f7).2 ≠ 0 then (sideRes h.f5 h.f7).2 else if (sideRes h.f6 h.f8).2 ≠ 0 then (sideRes h.f6 h.f8).2 else if fits h.f2 h.f3 h.f4 (sideRes h.f5 h.f7).1 (sideRes h.f6 h.f8).1 = true then 0 else 22 := by
  unfold checkR openR openRes headE
  by_cases c1 : h.f0 < -4 ∨ h.f0 > 8
  · rw [if_pos c1, if_pos c1, if_pos (by omega)]
  rw [if_neg c1, if_neg c1]
  by_cases c2 : ¬ h.f1 < 9218868437227405312
  · rw [if_pos c2, if_pos c2, if_pos (by omega)]
  rw [if_neg c2, if_neg c2, if_neg (c := (0 : Int) ≠ 0) (by omega)]
  by_cases c3 : (sideRes h.f5 h.f7).2 ≠ 0
  · rw [if_pos c3, if_pos c3]
  rw [if_neg c3, if_neg c3]
  by_cases c4 : (sideRes h.f6 h.f8).2 ≠ 0
  · rw [if_pos c4, if_pos c4]
  rw [if_neg c4, if_neg c4]
  by_cases c5 : fits h.f2 h.f3 h.f4 (sideRes h.f5 h.f7).1 (sideRes h.f6 h.f8).1 = true
  · rw [if_pos c5, if_pos c5]
  · rw [if_neg c5, if_neg c5]
theorem openR_right {h : Hi} (hc : checkR h = 0) : openR h = ((sideRes h.f5 h.f7).1, (sideRes h.f6 h.f8).1, 0) := by
  unfold checkR openR openRes at *
  split at hc
  · cases hc
  split at hc
  · cases hc
  split at hc
  · rename_i h3; exact absurd hc h3
  split at hc
  · rename_i h3; exact absurd hc h3
  split at hc
  · rename_i h1 h2 h3 h4 h5; rw [if_neg h1, if_neg h2, if_neg h3, if_neg h4, if_pos h5]
  · cases hc
end Go.Proofs.Ytcabapilejagkaa.P
namespace Go.Proofs.Ytcabapilejagkaa.P
open Go.RowKit Go.Proofs.YtcabapilejagkaaW.PrintWords Go.Proofs.YtcabapilejagkaaW.PrintLast Go.Proofs.YtcabapilejagkaaW.PrintMore
set_option linter.unusedVariables false
set_option linter.unusedSimpArgs false
theorem side_bounds {l : List Sp} {d : List Int} (h0 : (sideRes l d).2 = 0) : (∀ p ∈ (sideRes l d).1, -1048576 ≤ p.f0 ∧ p.f0 ≤ 1048576) ∧ (sideRes l d).1.length = d.length ∧ (sideRes l d).1.map (·.f0) = plN 0 l ∧ spCheck l = 0 := by
  unfold sideRes at h0 ⊢
  by_cases c1 : spCheck l = 0
  rotate_left
  · rw [if_neg c1] at h0; exact absurd h0 c1
  rw [if_pos c1] at h0 ⊢
  by_cases c2 : cntN l = d.length
  rotate_left
  · rw [if_neg c2] at h0; cases h0
  rw [if_pos c2] at h0 ⊢
  cases hs : sumsFrom 0 d with
  | none => rw [hs] at h0; cases h0
  | some c =>
    rw [hs] at h0
    simp only at h0 ⊢
    by_cases c3 : c.any (fun x => decide (x < 0)) = true
    · rw [if_pos c3] at h0; cases h0
    rw [if_neg c3]
    have hr := rises_of_right c1
    have hpl := plN_length l 0 (fun s hs => (spRight_pos l _ _ _ (spCheck_zero c1).2 s hs).1)
    have hc := sumsFrom_length d 0 c hs
    have hz := zipL (plN 0 l) c (by omega)
    refine ⟨fun y hy => ?_, by simp; omega, hz.1, c1⟩
    have : y.f0 ∈ plN 0 l := by
      obtain ⟨i, hi, rfl⟩ := List.mem_iff_getElem.1 hy
      simp only [List.getElem_zipWith]; exact List.getElem_mem _
    exact rises_i64 hr _ this
theorem checkR_zero {h : Hi} (hc : checkR h = 0) : headE h = 0 ∧ (sideRes h.f5 h.f7).2 = 0 ∧ (sideRes h.f6 h.f8).2 = 0 ∧ fits h.f2 h.f3 h.f4 (sideRes h.f5 h.f7).1 (sideRes h.f6 h.f8).1 = true := by
  rw [checkR_eq] at hc
  by_cases c1 : headE h = 0
  rotate_left
  · rw [if_pos c1] at hc; exact absurd hc c1
  rw [if_neg (by simp [c1])] at hc
  by_cases c2 : (sideRes h.f5 h.f7).2 = 0
  rotate_left
  · rw [if_pos c2] at hc; exact absurd hc c2
  rw [if_neg (by simp [c2])] at hc
  by_cases c3 : (sideRes h.f6 h.f8).2 = 0
  rotate_left
  · rw [if_pos c3] at hc; exact absurd hc c3
  rw [if_neg (by simp [c3])] at hc
  by_cases c4 : fits h.f2 h.f3 h.f4 (sideRes h.f5 h.f7).1 (sideRes h.f6 h.f8).1 = true
  · exact ⟨c1, c2, c3, c4⟩
  · rw [if_neg c4] at hc; cases hc
end Go.Proofs.Ytcabapilejagkaa.P
namespace Go.Proofs.Ytcabapilejagkaa.P
open Go.RowKit Go.Shelf Go.Proofs.YtcabapilejagkaaW.PrintWords Go.Proofs.YtcabapilejagkaaW.PrintLast Go.Proofs.YtcabapilejagkaaW.PrintMore
set_option linter.unusedVariables false
set_option linter.unusedSimpArgs false
attribute [local go_sem] Oper.semAt_some
structure HoldsW (n0 bE bN bH bP : Nat) (h : Hi) (W : World) : Prop where
  ge : n0 ≤ bE ∧ n0 ≤ bN ∧ n0 ≤ bH ∧ n0 ≤ bP
  e : Blk W bE #[.int .i64 (checkR h)] 42
  n : ∃ v, Blk W bN #[v] 22 ∧ RowW n0 W v (openR h).2.1.reverse
  hh : ∃ v5 v6 v7 v8, Blk W bH #[.int .i64 h.f0, .int .u64 h.f1, .int .u64 h.f2, .int .u64 h.f3, .int .u64 h.f4, v5, v6, v7, v8] 37
  p : ∃ v, Blk W bP #[v] 22 ∧ RowW n0 W v (openR h).1
theorem HoldsW.keep {n0 bE bN bH bP : Nat} {h : Hi} {A B : World} (x : HoldsW n0 bE bN bH bP h A) (k : KeepC n0 A B) : HoldsW n0 bE bN bH bP h B := by
  obtain ⟨g, e, ⟨v, n1, n2⟩, ⟨v5, v6, v7, v8, hb⟩, ⟨u, p1, p2⟩⟩ := x
  exact ⟨g, k.blk g.1 e, ⟨v, k.blk g.2.1 n1, n2.keep k⟩, ⟨v5, v6, v7, v8, k.blk g.2.2.1 hb⟩, ⟨u, k.blk g.2.2.2 p1, p2.keep k⟩⟩
set_option maxRecDepth 100000 in
set_option maxHeartbeats 4000000 in
theorem walk1_in (n : Nat) (hn : 2 ≤ n) (L n0 bE bN bH bP : Nat) (h : Hi) (hwf : wfH h) (J Jx : Nat → World → Prop)
    (hJ : ∀ i W W', J i W → W.grownBy W' none → J i W')
    (hY : ∀ i W, J i W → ∀ x, (toldW h)[i]? = some x → YieldAt Fence.wide (n - 1) Try.prog L #[encB x] W fun e W' =>
      (e = .returned (.bool true) ∧ J (i + 1) W' ∧ KeepC n0 W W') ∨ (e = .returned (.bool false) ∧ Jx (i + 1) W'))
    (W : World) (hn0 : n0 ≤ W.heap.size) (hS : HoldsW n0 bE bN bH bP h W) (h0 : J 0 W) :
    CallsIn Fence.wide n Try.prog 95 #[.func (.yield L) #[] #[], .pointer (some ⟨bE, 0, none⟩), .pointer (some ⟨bN, 0, none⟩), .pointer (some ⟨bH, 0, none⟩), .pointer (some ⟨bP, 0, none⟩)] W fun e W' =>
      (∃ v, e = .returned v) ∧ (J (toldW h).length W' ∨ ∃ i, Jx i W') := by
  have hud := Try.underlying37
  have hbx := (Blk.new W #[.func (.yield L) #[] #[]] 148)
  have hal := below_alloc (Below.refl W.heap.size W) (.cells #[.func (.yield L) #[] #[]] 148)
  have HS := Aside0.mk (hS.keep (KeepC.of_below hal))
  have H0 := Aside0.mk (hJ _ _ _ h0 (grown_of_below hal none))
  obtain ⟨-, hce, ⟨vN, hcn, hrn⟩, ⟨v5, v6, v7, v8, hch⟩, ⟨vP, hcp, hrp⟩⟩ := HS.out
  have HB5 := Aside0.mk hbx
  have HJ := Aside0.mk hJ
  have HY := Aside0.mk hY
  have HRN := Aside0.mk hrn
  have HRP := Aside0.mk hrp
  have hrow := openR_row hwf
  have ce0 := hce.cell 0
  have cn0 := hcn.cell 0
  have ch0 := fun i => hch.cell i
  have cp0 := hcp.cell 0
  clear hS h0 hJ hY hbx hal hce hcn hch hcp hrn hrp
  refine callsIn_of_wp Try.func95 rfl trivial ?_ rfl
  simp only [Try.ntmps95, List.size_toArray, List.length_cons, List.length_nil, Nat.reduceAdd, Nat.reduceSub, Array.replicate_succ, Array.replicate_zero, List.push_toArray, List.append_toArray, List.nil_append, List.cons_append]
  by_cases hc : checkR h = 0
  · have ht : toldW h = segW 1 (openR h).2.1.reverse ++ ((if h.f2 = 0 then [] else [⟨2, 0, h.f2⟩]) ++ segW 0 (openR h).1) := by unfold toldW; rw [if_pos hc]
    rw [hc] at ce0
    have hw1 : ∀ q ∈ (openR h).2.1.reverse, i64 q.f1 := fun q hq => by have := hrow.2.cnt q (List.mem_reverse.1 hq); exact ⟨by omega, by omega⟩
    have hw0 : ∀ q ∈ (openR h).1, i64 q.f1 := fun q hq => by have := hrow.1.cnt q hq; exact ⟨by omega, by omega⟩
    generalize hrn_ : (openR h).2.1.reverse = rn at *
    generalize hrp_ : (openR h).1 = rp at *
    have HRPE := Aside0.mk hrp_
    clear hrn_ hrp_
    have t1 : ∀ j, j < (segW 1 rn).length → (toldW h)[0 + j]? = (segW 1 rn)[j]? := fun j hj => by rw [ht, Nat.zero_add, List.getElem?_append_left hj]
    have tell1 := tell_in (n - 1) (by omega) L n0 W.heap.size (toldW h) 1 vN rn 0 J Jx t1 hw1 HJ.out (fun i W hi x hx => yield_wide (HY.out i W hi x hx)) _ HB5.out hn0 HRN.out H0.out
    have HT1 := Aside0.mk tell1
    have HTT := Aside0.mk ht
    clear tell1 t1 ht hw1 H0 HRN
    gi_wp2
    (repeat (with_reducible refine And.intro (by with_unfolding_all (first | exact trivial | exact (fun f h => (by cases h)) | exact (fun _ => (by omega)))) ?_))
    refine HT1.out.mono ?_
    rintro e W1_ (⟨rfl, hj, hk⟩ | ⟨rfl, i, hx⟩)
    rotate_left
    · have HX := Aside0.mk hx
      clear hx
      gi_wp2
      iterate 4 ((try (all_goals (first | (rename_i hu1_ hu2_ hu3_ hu4_ hu5_ hu6_ hu7_ hu8_ hu9_; (first | (injection hu1_ with hu1_; cases hu1_; done) | (injection hu2_ with hu2_; cases hu2_; done) | (injection hu3_ with hu3_; cases hu3_; done))) | skip))); (try (all_goals (try ((repeat (with_reducible refine And.intro (by with_unfolding_all (first | exact trivial | exact (fun f h => (by cases h)) | exact (fun _ => (by omega)))) ?_)); gi_wp2)))))
      all_goals (first | (refine bodyPost_ret (results_none rfl _ _ _) rfl ?_) | go_end0)
      all_goals exact ⟨⟨_, rfl⟩, .inr ⟨_, HX.out⟩⟩
    have HS1 := Aside0.mk (HS.out.keep hk)
    have HB1 := Aside0.mk (hk.blk hn0 HB5.out)
    have HJ1 := Aside0.mk hj
    obtain ⟨-, -, -, ⟨w5, w6, w7, w8, hch1⟩, ⟨vQ, hcp1, hrq1⟩⟩ := HS1.out
    rw [HRPE.out] at hrq1
    have HR1 := Aside0.mk hrq1
    have ch1 := fun i => hch1.cell i
    have cp1 := hcp1.cell 0
    have cb1 := HB1.out.cell 0
    clear hk hj hch1 hcp1 hrq1 ch0 cp0 cn0 ce0
    by_cases hz : h.f2 = 0
    · have hz' : (h.f2 == 0) = true := beq_iff_eq.2 hz
      have t0 : ∀ j, j < (segW 0 rp).length → (toldW h)[0 + (segW 1 rn).length + j]? = (segW 0 rp)[j]? := fun j hj => by rw [HTT.out, if_pos hz, Nat.zero_add, List.nil_append, List.getElem?_append_right (by omega)]; congr 1; omega
      have tell0 := tell_in (n - 1) (by omega) L n0 W.heap.size (toldW h) 0 vQ rp _ J Jx t0 hw0 HJ.out (fun i W hi x hx => yield_wide (HY.out i W hi x hx)) _ HB1.out hn0 HR1.out HJ1.out
      have HT0 := Aside0.mk tell0
      have HL := Aside0.mk (show (toldW h).length = 0 + (segW 1 rn).length + (segW 0 rp).length by rw [HTT.out, if_pos hz]; simp)
      clear tell0 t0 hw0 hz
      gi_wp2
      (repeat (with_reducible refine And.intro (by with_unfolding_all (first | exact trivial | exact (fun f h => (by cases h)) | exact (fun _ => (by omega)))) ?_))
      (try gi_wp2)
      (repeat (with_reducible refine And.intro (by with_unfolding_all (first | exact trivial | exact (fun f h => (by cases h)) | exact (fun _ => (by omega)))) ?_))
      refine HT0.out.mono ?_
      rintro e W2_ (⟨rfl, hj, hk⟩ | ⟨rfl, i, hx⟩)
      · have HX := Aside0.mk hj
        clear hj hk
        gi_wp2
        iterate 4 ((try (all_goals (first | (rename_i hu1_ hu2_ hu3_ hu4_ hu5_ hu6_ hu7_ hu8_ hu9_; (first | (injection hu1_ with hu1_; cases hu1_; done) | (injection hu2_ with hu2_; cases hu2_; done) | (injection hu3_ with hu3_; cases hu3_; done))) | skip))); (try (all_goals (try ((repeat (with_reducible refine And.intro (by with_unfolding_all (first | exact trivial | exact (fun f h => (by cases h)) | exact (fun _ => (by omega)))) ?_)); gi_wp2)))))
        all_goals (first | (refine bodyPost_ret (results_none rfl _ _ _) rfl ?_) | go_end0)
        all_goals exact ⟨⟨_, rfl⟩, .inl (by rw [HL.out]; exact HX.out)⟩
      · have HX := Aside0.mk hx
        clear hx
        gi_wp2
        iterate 4 ((try (all_goals (first | (rename_i hu1_ hu2_ hu3_ hu4_ hu5_ hu6_ hu7_ hu8_ hu9_; (first | (injection hu1_ with hu1_; cases hu1_; done) | (injection hu2_ with hu2_; cases hu2_; done) | (injection hu3_ with hu3_; cases hu3_; done))) | skip))); (try (all_goals (try ((repeat (with_reducible refine And.intro (by with_unfolding_all (first | exact trivial | exact (fun f h => (by cases h)) | exact (fun _ => (by omega)))) ?_)); gi_wp2)))))
        all_goals (first | (refine bodyPost_ret (results_none rfl _ _ _) rfl ?_) | go_end0)
        all_goals exact ⟨⟨_, rfl⟩, .inr ⟨_, HX.out⟩⟩
    · have hz' : (h.f2 == 0) = false := beq_eq_false_iff_ne.2 hz
      have hx2 : (toldW h)[0 + (segW 1 rn).length]? = some ⟨2, 0, h.f2⟩ := by rw [HTT.out, if_neg hz, Nat.zero_add, List.getElem?_append_right (by omega)]; simp
      obtain ⟨fn, tmps, assign, body, hy, hRd⟩ := HY.out _ _ HJ1.out _ hx2
      unfold encB at hy
      have HRR := Aside0.mk hRd
      have t0 : ∀ j, j < (segW 0 rp).length → (toldW h)[0 + (segW 1 rn).length + 1 + j]? = (segW 0 rp)[j]? := fun j hj => by
        rw [HTT.out, if_neg hz, Nat.zero_add, List.getElem?_append_right (by omega), List.getElem?_append_right (by simp; omega)]
        congr 1; simp; omega
      have HT0_ := Aside0.mk t0
      have HL := Aside0.mk (show (toldW h).length = 0 + (segW 1 rn).length + 1 + (segW 0 rp).length by rw [HTT.out, if_neg hz]; simp; omega)
      clear hRd t0 hx2 hz
      gi_wp2
      (repeat (with_reducible refine And.intro (by with_unfolding_all (first | exact trivial | exact (fun f h => (by cases h)) | exact (fun _ => (by omega)))) ?_))
      refine HRR.out.mono ?_
      rintro e W2_ (⟨rfl, hj, hk⟩ | ⟨rfl, hx⟩)
      rotate_left
      · have HX := Aside0.mk hx
        clear hx
        gi_wp2
        iterate 4 ((try (all_goals (first | (rename_i hu1_ hu2_ hu3_ hu4_ hu5_ hu6_ hu7_ hu8_ hu9_; (first | (injection hu1_ with hu1_; cases hu1_; done) | (injection hu2_ with hu2_; cases hu2_; done) | (injection hu3_ with hu3_; cases hu3_; done))) | skip))); (try (all_goals (try ((repeat (with_reducible refine And.intro (by with_unfolding_all (first | exact trivial | exact (fun f h => (by cases h)) | exact (fun _ => (by omega)))) ?_)); gi_wp2)))))
        all_goals (first | (refine bodyPost_ret (results_none rfl _ _ _) rfl ?_) | go_end0)
        all_goals exact ⟨⟨_, rfl⟩, .inr ⟨_, HX.out⟩⟩
      have HS2 := Aside0.mk (HS1.out.keep hk)
      have HB2 := Aside0.mk (hk.blk hn0 HB1.out)
      have HJ2 := Aside0.mk hj
      obtain ⟨-, -, -, -, ⟨vS, hcp2, hrq2⟩⟩ := HS2.out
      have cp2 := hcp2.cell 0
      rw [HRPE.out] at hrq2
      have HR2 := Aside0.mk hrq2
      have tell0 := tell_in (n - 1) (by omega) L n0 W.heap.size (toldW h) 0 vS rp _ J Jx HT0_.out hw0 HJ.out (fun i W hi x hx => yield_wide (HY.out i W hi x hx)) _ HB2.out hn0 HR2.out HJ2.out
      have HT0 := Aside0.mk tell0
      clear tell0 hw0 hk hj ch1 cp1 cb1 hcp2 hrq2
      gi_wp2
      (repeat (with_reducible refine And.intro (by with_unfolding_all (first | exact trivial | exact (fun f h => (by cases h)) | exact (fun _ => (by omega)))) ?_))
      (try gi_wp2)
      (repeat (with_reducible refine And.intro (by with_unfolding_all (first | exact trivial | exact (fun f h => (by cases h)) | exact (fun _ => (by omega)))) ?_))
      refine HT0.out.mono ?_
      rintro e W3_ (⟨rfl, hj, hk⟩ | ⟨rfl, i, hx⟩)
      · have HX := Aside0.mk hj
        clear hj hk
        gi_wp2
        iterate 4 ((try (all_goals (first | (rename_i hu1_ hu2_ hu3_ hu4_ hu5_ hu6_ hu7_ hu8_ hu9_; (first | (injection hu1_ with hu1_; cases hu1_; done) | (injection hu2_ with hu2_; cases hu2_; done) | (injection hu3_ with hu3_; cases hu3_; done))) | skip))); (try (all_goals (try ((repeat (with_reducible refine And.intro (by with_unfolding_all (first | exact trivial | exact (fun f h => (by cases h)) | exact (fun _ => (by omega)))) ?_)); gi_wp2)))))
        all_goals (first | (refine bodyPost_ret (results_none rfl _ _ _) rfl ?_) | go_end0)
        all_goals exact ⟨⟨_, rfl⟩, .inl (by rw [HL.out]; exact HX.out)⟩
      · have HX := Aside0.mk hx
        clear hx
        gi_wp2
        iterate 4 ((try (all_goals (first | (rename_i hu1_ hu2_ hu3_ hu4_ hu5_ hu6_ hu7_ hu8_ hu9_; (first | (injection hu1_ with hu1_; cases hu1_; done) | (injection hu2_ with hu2_; cases hu2_; done) | (injection hu3_ with hu3_; cases hu3_; done))) | skip))); (try (all_goals (try ((repeat (with_reducible refine And.intro (by with_unfolding_all (first | exact trivial | exact (fun f h => (by cases h)) | exact (fun _ => (by omega)))) ?_)); gi_wp2)))))
        all_goals (first | (refine bodyPost_ret (results_none rfl _ _ _) rfl ?_) | go_end0)
        all_goals exact ⟨⟨_, rfl⟩, .inr ⟨_, HX.out⟩⟩
  · have ht : toldW h = [] := by unfold toldW; rw [if_neg hc]
    have hc' : (checkR h != 0) = true := bne_iff_ne.2 hc
    generalize checkR h = r at *
    have HT := Aside0.mk ht
    clear ht hc
    gi_wp2
    iterate 4 ((try (all_goals (first | (rename_i hu1_ hu2_ hu3_ hu4_ hu5_ hu6_ hu7_ hu8_ hu9_; (first | (injection hu1_ with hu1_; cases hu1_; done) | (injection hu2_ with hu2_; cases hu2_; done) | (injection hu3_ with hu3_; cases hu3_; done))) | skip))); (try (all_goals (try ((repeat (with_reducible refine And.intro (by with_unfolding_all (first | exact trivial | exact (fun f h => (by cases h)) | exact (fun _ => (by omega)))) ?_)); gi_wp2)))))
    all_goals (first | (refine bodyPost_ret (results_none rfl _ _ _) rfl ?_) | go_end0)
    all_goals exact ⟨⟨_, rfl⟩, .inl (by rw [HT.out]; exact H0.out)⟩
end Go.Proofs.Ytcabapilejagkaa.P
namespace Go.Proofs.Ytcabapilejagkaa.P
open Go.RowKit Go.Shelf Go.Proofs.YtcabapilejagkaaW.PrintWords Go.Proofs.YtcabapilejagkaaW.PrintLast Go.Proofs.YtcabapilejagkaaW.PrintMore
set_option linter.unusedVariables false
set_option linter.unusedSimpArgs false
theorem reverse_loop (l : List Pr) (hm : l.length < 4611686018427387904) : ∀ (d k i : Nat) (X : List Pr), l.length - 2 * i ≤ d → d < k → X.length = l.length → 2 * i ≤ l.length + 1 →
    (∀ m (h : m < l.length) (hx : m < X.length), X[m] = if m < i ∨ l.length ≤ m + i then l[l.length - 1 - m] else l[m]) →
    pairs_Pair_int64_94.l0 k X (i : Int) ((l.length : Int) - 1 - (i : Int)) = some l.reverse := by
  intro d
  induction d with
  | zero =>
    intro k i X hd hk hl hi hX
    obtain ⟨k, rfl⟩ : ∃ m, k = m + 1 := ⟨k - 1, by omega⟩
    rw [pairs_Pair_int64_94.l0, if_neg (by omega)]
    congr 1
    refine List.ext_getElem (by simp [hl]) (fun m h1 h2 => ?_)
    rw [hX m (by omega) h1, List.getElem_reverse]
    by_cases c : m < i ∨ l.length ≤ m + i
    · rw [if_pos c]
    · rw [if_neg c]; congr 1; omega
  | succ d ih =>
    intro k i X hd hk hl hi hX
    obtain ⟨k, rfl⟩ : ∃ m, k = m + 1 := ⟨k - 1, by omega⟩
    by_cases c : (i : Int) < (l.length : Int) - 1 - (i : Int)
    · have h1 : l.length - 1 - i < X.length := by omega
      have h2 : i < X.length := by omega
      have e3 : ((l.length : Int) - 1 - (i : Int)) = ((l.length - 1 - i : Nat) : Int) := by omega
      rw [pairs_Pair_int64_94.l0, if_pos c, if_pos (by omega), if_pos (by omega), if_pos (by omega), if_pos (by omega), e3, rdPr_at h1, rdPr_at h2, Int.toNat_natCast, Int.toNat_natCast, wrap_succ (by omega), wrap_id (by omega) (by omega)]
      have e4 : (((l.length - 1 - i : Nat) : Int) - 1) = (l.length : Int) - 1 - ((i + 1 : Nat) : Int) := by omega
      rw [e4]
      refine ih k (i + 1) _ (by omega) (by omega) (by simp [hl]) (by omega) (fun m hm1 hm2 => ?_)
      rw [List.getElem_set]
      by_cases q1 : l.length - 1 - i = m
      · rw [if_pos q1, if_pos (by omega)]
        have := hX i (by omega) h2
        rw [if_neg (by omega)] at this
        have e5 : l.length - 1 - m = i := by omega
        simp only [e5]
        rw [← this]
      · rw [if_neg q1, List.getElem_set]
        by_cases q2 : i = m
        · rw [if_pos q2, if_pos (by omega)]
          have := hX (l.length - 1 - i) (by omega) h1
          rw [if_neg (by omega)] at this
          subst q2
          rw [← this]
        · rw [if_neg q2, hX m hm1 (by omega)]
          by_cases q3 : m < i ∨ l.length ≤ m + i
          · rw [if_pos q3, if_pos (by omega)]
          · rw [if_neg q3, if_neg (by omega)]
    · rw [pairs_Pair_int64_94.l0, if_neg c]
      congr 1
      refine List.ext_getElem (by simp [hl]) (fun m h1 h2 => ?_)
      rw [hX m (by omega) h1, List.getElem_reverse]
      by_cases c : m < i ∨ l.length ≤ m + i
      · rw [if_pos c]
      · rw [if_neg c]; congr 1; omega
theorem reverse_eq (l : List Pr) (hm : l.length < 4611686018427387904) (k : Nat) (hk : l.length < k) : pairs_Pair_int64_94.f k l = some l.reverse := by
  unfold pairs_Pair_int64_94.f
  by_cases h0 : l.length = 0
  · obtain rfl := List.eq_nil_of_length_eq_zero h0
    obtain ⟨k, rfl⟩ : ∃ m, k = m + 1 := ⟨k - 1, by simp at hk; omega⟩
    rw [pairs_Pair_int64_94.l0, if_neg (by rw [show (((([] : List Pr).length : Nat) : Int) - 1) = -1 from rfl, wrap_id (by omega) (by omega)]; omega)]; rfl
  · have := reverse_loop l hm l.length k 0 l (by omega) hk rfl (by omega) (fun m h hx => by rw [if_neg (by omega)])
    rw [wrap_id (by omega) (by omega)]
    simpa using this
theorem open_rc (h : Hi) (hw : wfH h) (w : World) (v : Value) (hv : HI w v h) : Calls Try.prog 93 #[v] w fun e w' =>
    ∃ v0 v1 : Value, e = .returned (.tuple #[v0, v1, .int .i64 (checkR h)]) ∧ Kd.R kPr 30 w' w.heap.size (fun k_ => (w.heap.size ≤ k_) ∧ some k_ ≠ v1.ownBlock) v0 (openR h).1 ∧ Kd.R kPr 30 w' w.heap.size (fun k_ => (w.heap.size ≤ k_) ∧ some k_ ≠ v0.ownBlock) v1 (openR h).2.1 ∧ Below w.heap.size w w' := by
  obtain ⟨A5, c5, A6, c6, A7, c7, A8, c8, rfl, ⟨_, _, e5, h51, h52⟩, ⟨_, _, e6, h61, h62⟩, ⟨_, _, e7, h71, h72⟩, ⟨_, _, e8, h81, h82⟩⟩ := hv.open_
  cases e5; cases e6; cases e7; cases e8
  exact hist_open.calls h.f0 h.f1 h.f2 h.f3 h.f4 A5 c5 h.f5 A6 c6 h.f6 A7 c7 h.f7 A8 c8 h.f8 (openR h).1 (openR h).2.1 (openR h).2.2 w h52 h51 h62 h61 h72 h71 h82 h81 (if_pos hw)
theorem RowW.of_R {n0 : Nat} {W : World} {ok : Nat → Prop} {v : Value} {l : List Pr} (h : Kd.R kPr 30 W n0 ok v l) : RowW n0 W v l := Kd.R_mono h (fun _ _ => trivial)
theorem at0 (w : World) (a b c : Array Value) (ta tb tc : TypeId) : Blk (((w.alloc (.cells a ta)).alloc (.cells b tb)).alloc (.cells c tc)) w.heap.size a ta := ((Blk.new w a ta).alloc _).alloc _
theorem at1 (w : World) (a b c : Array Value) (ta tb tc : TypeId) : Blk (((w.alloc (.cells a ta)).alloc (.cells b tb)).alloc (.cells c tc)) (w.heap.size + 1) b tb := (Blk.at1 (w := w) (.cells a ta) b tb).alloc _
theorem at2 (w : World) (a b c : Array Value) (ta tb tc : TypeId) : Blk (((w.alloc (.cells a ta)).alloc (.cells b tb)).alloc (.cells c tc)) (w.heap.size + 1 + 1) c tc := by have := Blk.at1 (w := w.alloc (.cells a ta)) (.cells b tb) c tc; simpa using this
theorem R_ok {w : World} {base : Nat} {ok ok' : Nat → Prop} {v : Value} {l : List Pr} (h : Kd.R kPr 30 w base ok v l) (h' : ∀ k, v.ownBlock = some k → ok' k) : Kd.R kPr 30 w base ok' v l := ⟨h', h.2.imp_ (fun x cs hx => by rw [k30_openM hx]; exact k30_mkM _ _ _ x)⟩
theorem R_has {w : World} {base : Nat} {ok : Nat → Prop} {v : Value} {l : List Pr} (h : Kd.R kPr 30 w base ok v l) : ∀ k, v.ownBlock = some k → ok k := h.1
theorem RowW.of_kept {n0 base : Nat} {A B : World} {ok : Nat → Prop} {v : Value} {l : List Pr} (h : Kd.R kPr 30 A base ok v l) (hn : n0 ≤ base) (hh : ∀ q, v.ownBlock = some q → B.heap[q]? = A.heap[q]?) : RowW n0 B v l :=
  Kd.R_mono (Kd.R_lower (Kd.R_step (R_ok (ok' := fun q => v.ownBlock = some q) h (fun _ e => e)) (fun q hq _ => hh q hq)) hn) (fun _ _ => trivial)
set_option maxRecDepth 100000 in
set_option maxHeartbeats 8000000 in
theorem walk_c (h : Hi) (hw : wfH h) (w : World) (v : Value) (hv : HI w v h) : Calls Try.prog 32 #[v] w fun e w' =>
    ∃ bE bN bH bP : Nat, e = .returned (.func (.func 95) #[] #[.pointer (some ⟨bE, 0, none⟩), .pointer (some ⟨bN, 0, none⟩), .pointer (some ⟨bH, 0, none⟩), .pointer (some ⟨bP, 0, none⟩)]) ∧ HoldsW w.heap.size bE bN bH bP h w' ∧ Below w.heap.size w w' := by
  have hud := Try.underlying37
  obtain ⟨A5, c5, A6, c6, A7, c7, A8, c8, e, -⟩ := hv.open_
  subst e
  have hlen := (openR_row hw).2.len
  have HO := Aside0.mk (open_rc h hw)
  have HL := Aside0.mk hlen
  have hal0 := below_alloc (Below.refl w.heap.size w) (.cells #[.int .i64 h.f0, .int .u64 h.f1, .int .u64 h.f2, .int .u64 h.f3, .int .u64 h.f4, .slice A5 h.f5.length c5, .slice A6 h.f6.length c6, .slice A7 h.f7.length c7, .slice A8 h.f8.length c8] 37)
  have HV := Aside0.mk (hv.below hal0)
  have X := Aside0.mk (Blk.new w #[.int .i64 h.f0, .int .u64 h.f1, .int .u64 h.f2, .int .u64 h.f3, .int .u64 h.f4, .slice A5 h.f5.length c5, .slice A6 h.f6.length c6, .slice A7 h.f7.length c7, .slice A8 h.f8.length c8] 37)
  have hx := fun i => X.out.cell i
  have B := Aside0.mk hal0
  clear hv hlen hal0
  go_enter Try.func32, Try.ntmps32
  go_wp2_with (first | (go_at_call 93; (with_reducible refine (HO.out _ _ HV.out).mono ?_); rintro e W1 ⟨v0, v1, rfl, h0, h1, hb⟩; replace B := Aside0.mk (below_then B.out B.out.size hb); replace X := Aside0.mk (X.out.below hb); replace hx := fun i => X.out.cell i; have R0 := Aside0.mk h0; have R1 := Aside0.mk h1; obtain ⟨P0, d0, e0⟩ := Kd.R_slice R0.out; obtain ⟨P1, d1, e1⟩ := Kd.R_slice R1.out; subst e0; subst e1; have HB0 := Aside0.mk hb; clear h0 h1 hb) | (go_at_call 94; (with_reducible refine (pairs_Pair_int64_94.calls 5000 (fun k => k < W1.heap.size ∧ some k ≠ (.slice P0 (openR h).1.length d0 : Value).ownBlock) _ (openR h).2.1 (openR h).2.1.reverse (w.alloc (.cells #[.int .i64 h.f0, .int .u64 h.f1, .int .u64 h.f2, .int .u64 h.f3, .int .u64 h.f4, .slice A5 h.f5.length c5, .slice A6 h.f6.length c6, .slice A7 h.f7.length c7, .slice A8 h.f8.length c8] 37)) _ (below_alloc (below_alloc (below_alloc HB0.out _) _) _) (R_ok (Kd.R_alloc (Kd.R_alloc (Kd.R_alloc R1.out _) _) _) (fun k hk => ⟨Kd.R_lt R1.out k hk, (R_has R1.out k hk).2⟩)) (reverse_eq _ (by have := HL.out; omega) _ (by have := HL.out; omega))).mono ?_); rintro e W2 ⟨rfl, hr, hb, hk⟩; have RR := Aside0.mk hr; have RB := Aside0.mk hb; have RK := Aside0.mk hk; clear hr hb hk))
  go_ret
  refine ⟨W1.heap.size + 1 + 1, W1.heap.size + 1, w.heap.size, W1.heap.size, rfl, ?_, below_then (below_alloc (Below.refl _ _) _) (by simp) RB.out⟩
  have hsz := HB0.out.size
  have hsz1 : w.heap.size + 1 ≤ W1.heap.size := by simpa using hsz
  have hb := RB.out
  have hk := RK.out
  refine ⟨⟨by omega, by omega, Nat.le_refl _, by omega⟩, ?_, ⟨.slice P1 (openR h).2.1.length d1, ?_, RowW.of_R (Kd.R_lower RR.out (by simp))⟩, ⟨.slice A5 h.f5.length c5, .slice A6 h.f6.length c6, .slice A7 h.f7.length c7, .slice A8 h.f8.length c8, ?_⟩, ⟨.slice P0 (openR h).1.length d0, ?_, ?_⟩⟩
  · exact (hk.2 (W1.heap.size + 1 + 1) (by simp) (fun q => by have := q.1; omega)).trans (at2 W1 _ _ _ _ _ _)
  · exact (hk.2 (W1.heap.size + 1) (by simp) (fun q => by have := q.1; omega)).trans (at1 W1 _ _ _ _ _ _)
  · exact (hb.block w.heap.size (by simp)).trans (blk_new w _)
  · exact (hk.2 W1.heap.size (by simp; omega) (fun q => by have := q.1; omega)).trans (at0 W1 _ _ _ _ _ _)
  · have hk0 : ∀ q, (Value.slice P0 (openR h).1.length d0).ownBlock = some q → W2.heap[q]? = W1.heap[q]? := fun q hq => by
      have hl := Kd.R_lt R0.out q hq
      refine (hk.2 q (by simp; omega) (fun y => y.2 hq.symm)).trans ?_
      refine (Below.heap_alloc _ _ _ (by simp; omega)).trans ((Below.heap_alloc _ _ _ (by simp; omega)).trans (Below.heap_alloc _ _ _ hl))
    exact RowW.of_kept R0.out (by simp) hk0
theorem walk1_stops (n : Nat) (hn : 2 ≤ n) (n0 bE bN bH bP : Nat) (h : Hi) (hwf : wfH h) (w : World) (hn0 : n0 ≤ w.heap.size) (hS : HoldsW n0 bE bN bH bP h w) :
    SeqStopsK Fence.wide n Try.prog 95 #[.pointer (some ⟨bE, 0, none⟩), .pointer (some ⟨bN, 0, none⟩), .pointer (some ⟨bH, 0, none⟩), .pointer (some ⟨bP, 0, none⟩)] (fun x : Fin (toldW h).length => #[encB ((toldW h).get x)]) (KeepC n0) (fun ys => ys.map (·.val) = List.range (toldW h).length) (fun ys => ys.map (·.val) = List.range ys.length) (toldW h).length w := by
  intro L J Jx W hW hJ hJx hY h0
  refine (walk1_in n hn L n0 bE bN bH bP h hwf (fun i W => ∃ xs : List (Fin (toldW h).length), xs.map (·.val) = List.range i ∧ J xs W) (fun i W => ∃ xs, xs.map (·.val) = List.range xs.length ∧ Jx xs W)
    (fun i A B ⟨xs, e, hj⟩ hg => ⟨xs, e, hJ xs A B none hj hg (fun r e => by cases e)⟩)
    (by
      rintro i W1 ⟨xs, e, hj⟩ x hx
      obtain ⟨hi, rfl⟩ := List.getElem?_eq_some_iff.1 hx
      have hl : xs.length = i := by have := congrArg List.length e; simpa using this
      obtain ⟨fn, tmps, assign, body, hyy, hR⟩ := hY xs ⟨i, hi⟩ W1 hj (by omega)
      refine ⟨fn, tmps, assign, body, hyy, hR.mono ?_⟩
      rintro e' W' (⟨e1, e2, e3⟩ | ⟨e1, e2⟩)
      · exact .inl ⟨e1, ⟨xs ++ [⟨i, hi⟩], by rw [List.map_append, e, List.range_succ]; rfl, e2⟩, e3⟩
      · exact .inr ⟨e1, ⟨_, by rw [List.map_append, e, List.length_append, hl]; show List.range i ++ [i] = List.range (i + 1); rw [List.range_succ], e2⟩⟩)
    W (Nat.le_trans hn0 hW.size) (hS.keep (KeepC.of_below hW)) ⟨[], rfl, h0⟩).mono ?_
  rintro e W' ⟨hv, ⟨xs, e1, hj⟩ | ⟨i, xs, hp, hj⟩⟩
  · exact ⟨hv, .inl ⟨xs, e1, hj⟩⟩
  · exact ⟨hv, .inr ⟨xs, hp, hj⟩⟩
end Go.Proofs.Ytcabapilejagkaa.P
namespace Go.Proofs.Ytcabapilejagkaa.P
open Go.RowKit Go.Shelf Go.Proofs.YtcabapilejagkaaW.PrintWords Go.Proofs.YtcabapilejagkaaW.PrintLast Go.Proofs.YtcabapilejagkaaW.PrintMore
set_option linter.unusedVariables false
set_option linter.unusedSimpArgs false
attribute [local go_sem] Oper.semAt_some
def sumB : List Bk → Int
  | [] => 0
  | b :: l => b.n + sumB l
theorem sumB_app : ∀ (l m : List Bk), sumB (l ++ m) = sumB l + sumB m
  | [], m => by simp [sumB]
  | b :: l, m => by simp only [List.cons_append, sumB]; rw [sumB_app l m]; omega
theorem sumB_snoc (l : List Bk) (b : Bk) : sumB (l ++ [b]) = sumB l + b.n := by rw [sumB_app]; simp [sumB]
theorem segW_u64 {side : Int} {l : List Pr} (h : cnts l) : ∀ b ∈ segW side l, 0 ≤ b.n ∧ b.n < 9223372036854775808 := by
  intro b hb
  unfold segW at hb
  obtain ⟨q, hq, rfl⟩ := List.mem_map.1 hb
  have h1 := h q (List.mem_filter.1 hq).1
  exact ⟨by show 0 ≤ q.f1; omega, by show q.f1 < _; omega⟩
theorem toldW_u64 {h : Hi} (hw : wfH h) : ∀ b ∈ toldW h, u64 b.n := by
  intro b hb
  have hrow := openR_row hw
  unfold toldW at hb
  by_cases c : checkR h = 0
  · rw [if_pos c] at hb
    rcases List.mem_append.1 hb with hb | hb
    · have := segW_u64 (side := 1) (l := (openR h).2.1.reverse) (fun q hq => hrow.2.cnt q (List.mem_reverse.1 hq)) b hb
      exact ⟨by omega, by omega⟩
    rcases List.mem_append.1 hb with hb | hb
    · by_cases z : h.f2 = 0
      · rw [if_pos z] at hb; simp at hb
      · rw [if_neg z] at hb
        obtain rfl := List.mem_singleton.1 hb
        exact hw.2.2.1
    · have := segW_u64 (side := 0) hrow.1.cnt b hb
      exact ⟨by omega, by omega⟩
  · rw [if_neg c] at hb; simp at hb
def toldL (h : Hi) (pre : List (Fin (toldW h).length)) : List Bk := pre.map (fun i => (toldW h).get i)
theorem toldL_snoc (h : Hi) (pre : List (Fin (toldW h).length)) (x : Fin (toldW h).length) : toldL h (pre ++ [x]) = toldL h pre ++ [(toldW h).get x] := by unfold toldL; rw [List.map_append]; rfl
theorem toldL_take {h : Hi} {pre : List (Fin (toldW h).length)} (e : pre.map (·.val) = List.range pre.length) : toldL h pre = (toldW h).take pre.length := by
  have hv : ∀ i (hi : i < pre.length), pre[i].val = i := fun i hi => by
    have : (pre.map (·.val))[i]'(by simpa using hi) = i := by simp only [e, List.getElem_range]
    simpa using this
  have hl : pre.length ≤ (toldW h).length := by
    rcases Nat.eq_zero_or_pos pre.length with h0 | h0
    · omega
    · have := hv (pre.length - 1) (by omega)
      have := pre[pre.length - 1].isLt
      omega
  unfold toldL
  refine List.ext_getElem (by simp; omega) (fun i h1 h2 => ?_)
  have hi : i < pre.length := by simpa using h1
  simp only [List.getElem_map, List.getElem_take, List.get_eq_getElem, hv i hi]
theorem toldL_all {h : Hi} {pre : List (Fin (toldW h).length)} (e : pre.map (·.val) = List.range (toldW h).length) : toldL h pre = toldW h := by
  have hl : pre.length = (toldW h).length := by have := congrArg List.length e; simpa using this
  rw [toldL_take (by rw [e, hl]), hl, List.take_length]
def encB1 (b : Bk) : Array Value := #[.int .i64 b.s, .int .i64 b.p, .int .u64 b.n]
def BlkF (W : World) (g : Nat) (cs : Array Value) : Prop := Blk W g cs 62
theorem BlkF.grown {A B : World} {g : Nat} {cs : Array Value} {row : Option Nat} {n0 : Nat} (h : BlkF A g cs) (hg : A.grownBy B row) (hr : ∀ r, row = some r → n0 ≤ r ∧ ∃ o : Obj, A.heap[r]? = some o ∧ o.isCells = false) : BlkF B g cs :=
  (hg.block g (blk_lt h) (fun e => by obtain ⟨-, o, h1, h2⟩ := hr g e.symm; rw [show A.heap[g]? = _ from h] at h1; injection h1 with h1; subst h1; cases h2)).trans h
def totalR (h : Hi) : Int × Int := if checkR h = 0 then (IntKind.u64.wrap (sumB (toldW h)), 0) else (0, checkR h)
set_option maxHeartbeats 8000000 in
set_option maxRecDepth 100000 in
theorem total_c (h : Hi) (hw : wfH h) (w : World) (v : Value) (hv : HI w v h) : Calls Try.prog 35 #[v] w fun e w' =>
    e = .returned (.tuple #[.int .u64 (totalR h).1, .int .i64 (totalR h).2]) ∧ Below w.heap.size w w' := by
  have hud := Try.underlying37
  have hub := Try.underlying62
  obtain ⟨A5, c5, A6, c6, A7, c7, A8, c8, e, -⟩ := hv.open_
  subst e
  have hal0 := below_alloc (Below.refl w.heap.size w) (.cells #[.int .i64 h.f0, .int .u64 h.f1, .int .u64 h.f2, .int .u64 h.f3, .int .u64 h.f4, .slice A5 h.f5.length c5, .slice A6 h.f6.length c6, .slice A7 h.f7.length c7, .slice A8 h.f8.length c8] 37)
  have HV := Aside0.mk (hv.below hal0)
  have X := Aside0.mk (Blk.new w #[.int .i64 h.f0, .int .u64 h.f1, .int .u64 h.f2, .int .u64 h.f3, .int .u64 h.f4, .slice A5 h.f5.length c5, .slice A6 h.f6.length c6, .slice A7 h.f7.length c7, .slice A8 h.f8.length c8] 37)
  have hx := fun i => X.out.cell i
  have B := Aside0.mk hal0
  have CK := Aside0.mk (check_c h hw)
  have WK := Aside0.mk (walk_c h hw)
  have HW := Aside0.mk hw
  clear hv hal0 hw
  unfold totalR
  by_cases c1 : checkR h = 0
  rotate_left
  · rw [if_neg c1]
    generalize checkR h = ec at *
    have d1 : (ec != 0) = true := bne_iff_ne.2 c1
    clear c1 WK
    go_enter Try.func35, Try.ntmps35
    go_wp2_with (go_at_call 72; (with_reducible refine (CK.out _ _ HV.out).mono ?_); rintro e W1 ⟨rfl, hb⟩; replace B := Aside0.mk (below_then B.out B.out.size hb); clear hb)
    go_ret2
    exact ⟨rfl, B.out⟩
  rw [if_pos c1]
  rw [c1] at CK
  have HC := Aside0.mk c1
  clear c1
  refine (callsIn_wide (n := 5)).1 ?_
  refine callsIn_of_wp_marks Try.func35 rfl trivial ?_ rfl
  simp only [Try.ntmps35, List.size_toArray, List.length_cons, List.length_nil, Nat.reduceAdd, Nat.reduceSub, Array.replicate_succ, Array.replicate_zero, List.push_toArray, List.append_toArray, List.nil_append, List.cons_append]
  refine wpIn_wide.2 ?_
  go_wp2_with (first | (go_at_call 72; (with_reducible refine (CK.out _ _ HV.out).mono ?_); rintro e W1 ⟨rfl, hb⟩; replace B := Aside0.mk (below_then B.out B.out.size hb); replace HV := Aside0.mk (HV.out.below hb); replace X := Aside0.mk (X.out.below hb); replace hx := fun i => X.out.cell i; have hxa := fun i => (X.out.alloc (.cells #[.int .u64 0] 33)).cell i; have LOWA := Aside0.mk hb.size; clear hb) | (go_at_call 32; (with_reducible refine (WK.out _ _ (HV.out.below (below_alloc (Below.refl _ _) _))).mono ?_); rintro e W2 ⟨bE, bN, bH, bP, rfl, hS, hb⟩; replace B := Aside0.mk (below_then (below_then B.out B.out.size (below_alloc (Below.refl _ _) (.cells #[.int .u64 0] 33))) (by have := B.out.size; simp at this ⊢; omega) hb); have HS := Aside0.mk hS; have HB2 := Aside0.mk hb; clear hS hb))
  refine (wpIn_wide (n := 5)).1 ?_
  have hz1 : (W1.alloc (.cells #[.int .u64 0] 33)).heap.size = W1.heap.size + 1 := by simp
  have hbx0 : Boxed W2 W1.heap.size 33 (.int .u64 0) := (HB2.out.block _ (by simp)).trans (by simpa using blk_new W1 (.cells #[.int .u64 0] 33))
  have hge2 : W1.heap.size + 1 ≤ W2.heap.size := by have := HB2.out.size; omega
  have hw2 : w.heap.size ≤ W1.heap.size := by have := LOWA.out; simp at this; omega
  have hS2 : HoldsW (W1.heap.size + 1) bE bN bH bP h W2 := by have := HS.out; rwa [hz1] at this
  refine wpIn_rangeFunc_ownH rfl (by omega) (gf := 95) (lb := #[.pointer (some ⟨bE, 0, none⟩), .pointer (some ⟨bN, 0, none⟩), .pointer (some ⟨bH, 0, none⟩), .pointer (some ⟨bP, 0, none⟩)]) rfl trivial (enters_of Try.func95 (by kernel_rfl) rfl)
    (walk1_stops _ (by omega) (W1.heap.size + 1) bE bN bH bP h HW.out W2 hge2 hS2) KeepC.trans (fun W l o o' _ h hc _ => KeepC.put W l o o' h hc) (Below.refl _ _) (fun _ => rfl)
    (fun pre W => Boxed W W1.heap.size 33 (.int .u64 (IntKind.u64.wrap (sumB (toldL h pre)))) ∧ (Below w.heap.size w W ∧ W2.heap.size ≤ W.heap.size))
    (fun _ _ _ => False)
    (OwnFrom.and (Own.from (boxed_own _ _ _) _) (OwnFrom.and (ownFrom_below (Nat.le_refl _) (by omega)) (fun s A B row hs hg hr => Nat.le_trans hs hg.size)))
    (fun _ _ _ _ _ hs _ _ => hs)
    ⟨hbx0, B.out, Nat.le_refl _⟩
    (fun x a' W => ∃ b, a' = ({ tmps := #[.agg #[.int .i64 h.f0, .int .u64 h.f1, .int .u64 h.f2, .int .u64 h.f3, .int .u64 h.f4, .slice A5 h.f5.length c5, .slice A6 h.f6.length c6, .slice A7 h.f7.length c7, .slice A8 h.f8.length c8], .pointer (some ⟨w.heap.size, 0, none⟩), .int .u64 0, .int .i64 0, .int .i64 0, .pointer (some ⟨W1.heap.size, 0, none⟩), .pointer (some ⟨b, 0, none⟩), .agg #[.int .i64 h.f0, .int .u64 h.f1, .int .u64 h.f2, .int .u64 h.f3, .int .u64 h.f4, .slice A5 h.f5.length c5, .slice A6 h.f6.length c6, .slice A7 h.f7.length c7, .slice A8 h.f8.length c8], .int .i64 0, .int .i64 0, .bool false, undef, .agg #[.int .i64 h.f0, .int .u64 h.f1, .int .u64 h.f2, .int .u64 h.f3, .int .u64 h.f4, .slice A5 h.f5.length c5, .slice A6 h.f6.length c6, .slice A7 h.f7.length c7, .slice A8 h.f8.length c8], .func (.func 95) #[] #[.pointer (some ⟨bE, 0, none⟩), .pointer (some ⟨bN, 0, none⟩), .pointer (some ⟨bH, 0, none⟩), .pointer (some ⟨bP, 0, none⟩)], encB ((toldW h).get x), undef, undef, undef, undef, undef], defers := [] } : Act) ∧ BlkF W b (encB1 ((toldW h).get x)) ∧ W2.heap.size ≤ b) (fun x a' s A B row ⟨b, e, hb, hge⟩ hg hr => ⟨b, e, hb.grown hg hr, hge⟩) ?assign ?body ?done ?stop
  case assign =>
    intro l pre x W K hI hK
    have HI_ := Aside0.mk hI
    have HK := Aside0.mk hK
    clear hI hK
    obtain ⟨y, hy⟩ : ∃ y, y = (toldW h).get x := ⟨_, rfl⟩
    have HY := Aside0.mk hy
    simp only [← hy]
    clear hy
    unfold encB
    gi_wp2
    have hbl := below_alloc (Below.refl W.heap.size W) (.cells (encB1 y) 62)
    refine HK.out _ _ ((KeepsOthers.alloc W (.cells (encB1 y) 62)).from _) (KeepC.of_below hbl) ⟨HI_.out.1.alloc _, below_then HI_.out.2.1 HI_.out.2.1.size hbl, Nat.le_trans HI_.out.2.2 hbl.size⟩ ⟨W.heap.size, ?_, ?_, HI_.out.2.2⟩
    · rw [← HY.out]; rfl
    · rw [← HY.out]; exact Blk.new W _ _
  case body =>
    rintro l pre x a' W hl hlr ⟨hx1, hx2, hx3⟩ ⟨b, rfl, hb, hge⟩ hlt
    obtain ⟨y, hy⟩ : ∃ y, y = (toldW h).get x := ⟨_, rfl⟩
    have HT := Aside0.mk (toldL_snoc h pre x)
    rw [← hy] at hb HT
    simp only [← hy]
    clear hy
    unfold encB
    obtain ⟨s, hs⟩ : ∃ s, s = sumB (toldL h pre) := ⟨_, rfl⟩
    rw [← hs] at hx1
    have HS_ := Aside0.mk hs
    have hc := hx1.cell
    have hf := hx1.frozen
    have hbc := fun i => Blk.cell hb i
    have HX1 := Aside0.mk hx1
    have HX2 := Aside0.mk hx2
    have HX3 := Aside0.mk hx3
    have HBB := Aside0.mk hb
    clear hs hx1 hx2 hx3 hb hl hlr hlt
    unfold encB1 at hbc
    gi_wp2
    have hw1 : IntKind.u64.wrap (IntKind.u64.wrap s + y.n) = IntKind.u64.wrap (sumB (toldL h (pre ++ [x]))) := by
      rw [HT.out, sumB_snoc, ← HS_.out]
      show (s % 18446744073709551616 + y.n) % 18446744073709551616 = (s + y.n) % 18446744073709551616
      omega
    rw [hw1]
    refine ⟨KeepsFrom.of_grownBy (grownBy_setCell' _ _ _) (fun j e => by cases e; omega), KeepC.setCell _ (Nat.lt_succ_self _) _, HX1.out.set _, ?_, ?_⟩
    · exact HX2.out.setCell (by omega) _
    · have := HX3.out; simp [World.setCell]; exact this
  case done =>
    rintro D xs W hD hS ⟨hx1, hx2, hx3⟩ hK
    rw [toldL_all hS] at hx1
    have hc := hx1.cell
    have HX2 := Aside0.mk hx2
    have HK := Aside0.mk hK
    clear hx1 hx2 hx3 hK hS
    go_wp2
    refine ⟨by simp, .inl ⟨_, _, rfl, run_takeDeferred HK.out, ?_⟩⟩
    exact ⟨_, results_tmp2 rfl _ _ _, rfl, HX2.out.trans (belowK_b (w := W2) (by omega) W D _ _ hD HK.out rfl rfl)⟩
  case stop =>
    rintro D c pre W _ _ h _
    exact h.elim
end Go.Proofs.Ytcabapilejagkaa.P
namespace Go.Proofs.Ytcabapilejagkaa.P
open Go.RowKit Go.Shelf Go.Proofs.YtcabapilejagkaaW.PrintWords Go.Proofs.YtcabapilejagkaaW.PrintLast Go.Proofs.YtcabapilejagkaaW.PrintMore
set_option linter.unusedVariables false
set_option linter.unusedSimpArgs false
attribute [local go_sem] Oper.semAt_some
def findK : List Bk → Int → Option Bk
  | [], _ => none
  | b :: l, k => if k ≤ b.n then some b else findK l (k - b.n)
def leftK : List Bk → Int → Int
  | [], k => k
  | b :: l, k => leftK l (k - b.n)
theorem leftK_sum : ∀ (l : List Bk) (k : Int), leftK l k = k - sumB l
  | [], k => by simp [leftK, sumB]
  | b :: l, k => by rw [leftK, leftK_sum l]; simp only [sumB]; omega
theorem findK_app : ∀ (l m : List Bk) (k : Int), findK (l ++ m) k = match findK l k with | some b => some b | none => findK m (leftK l k)
  | [], m, k => rfl
  | b :: l, m, k => by
    simp only [List.cons_append, findK, leftK]
    by_cases c : k ≤ b.n
    · rw [if_pos c, if_pos c]
    · rw [if_neg c, if_neg c, findK_app l m]
theorem findK_left : ∀ (l : List Bk) (k : Int), (∀ b ∈ l, 0 ≤ b.n) → 0 < k → findK l k = none → 0 < leftK l k ∧ leftK l k ≤ k
  | [], k, _, h, _ => ⟨h, Int.le_refl _⟩
  | b :: l, k, hp, h, hn => by
    simp only [findK] at hn
    simp only [leftK]
    by_cases c : k ≤ b.n
    · rw [if_pos c] at hn; cases hn
    · rw [if_neg c] at hn
      have h1 := findK_left l (k - b.n) (fun x hx => hp x (List.mem_cons_of_mem _ hx)) (by omega) hn
      have h2 := hp b (List.mem_cons_self ..)
      omega
def atR (h : Hi) (k : Int) : Bk × Int := if checkR h = 0 then (if 0 < k then (match findK (toldW h) k with | some b => (b, 0) | none => (⟨0, 0, 0⟩, 11)) else (⟨0, 0, 0⟩, 11)) else (⟨0, 0, 0⟩, checkR h)
theorem at3 (w : World) (a b : Obj) (c : Array Value) (tc : TypeId) : Blk (((w.alloc a).alloc b).alloc (.cells c tc)) (w.heap.size + 1 + 1) c tc := by have := Blk.at1 (w := w.alloc a) b c tc; simpa using this
theorem at4 (w : World) (a b c : Obj) (d : Array Value) (td : TypeId) : Blk ((((w.alloc a).alloc b).alloc c).alloc (.cells d td)) (w.heap.size + 1 + 1 + 1) d td := by have := at3 (w.alloc a) b c d td; simpa using this
theorem three {W : World} {g : Nat} {t : TypeId} {a0 a1 a2 : Value} (h : W.heap[g]? = some (.cells #[a0, a1, a2] t (0, 0))) (v0 v1 v2 : Value) :
    (((W.setCell ⟨g, 0, none⟩ v0).setCell ⟨g, 1, none⟩ v1).setCell ⟨g, 2, none⟩ v2).heap[g]? = some (.cells #[v0, v1, v2] t (0, 0)) := by
  refine blk_put (cs := #[v0, v1, a2]) ?_ 2 _ rfl
  refine blk_put (cs := #[v0, a1, a2]) ?_ 1 _ rfl
  exact blk_put (cs := #[a0, a1, a2]) h 0 _ rfl
theorem Blk.grown {A B : World} {g : Nat} {cs : Array Value} {t : TypeId} {row : Option Nat} {n0 : Nat} (h : Blk A g cs t) (hg : A.grownBy B row) (hr : ∀ r, row = some r → n0 ≤ r ∧ ∃ o : Obj, A.heap[r]? = some o ∧ o.isCells = false) : Blk B g cs t :=
  (hg.block g (blk_lt h) (fun e => by obtain ⟨-, o, h1, h2⟩ := hr g e.symm; rw [show A.heap[g]? = _ from h] at h1; injection h1 with h1; subst h1; cases h2)).trans h
theorem blk_put_ne {W : World} {g g' j : Nat} {o : Obj} (h : W.heap[g]? = some o) (hne : g ≠ g') (u : Value) : (W.setCell ⟨g', j, none⟩ u).heap[g]? = some o := (Below.heap_setCell W ⟨g', j, none⟩ u g hne).trans h
theorem cell_put1 {W : World} {g g' : Nat} {a : Value} {t : TypeId} (h : Blk W g' #[a] t) (hne : g' ≠ g) (v0 v1 v2 u : Value) : ((((W.setCell ⟨g, 0, none⟩ v0).setCell ⟨g, 1, none⟩ v1).setCell ⟨g, 2, none⟩ v2).setCell ⟨g', 0, none⟩ u).cell? ⟨g', 0, none⟩ = some u := by
  have h3 := blk_put_ne (j := 2) (blk_put_ne (j := 1) (blk_put_ne (j := 0) h hne v0) hne v1) hne v2
  exact (Boxed.set u h3).cell
theorem blk_putObj_ne {W : World} {g D : Nat} {o : Obj} (h : W.heap[g]? = some o) (hne : g ≠ D) (o' : Obj) : (W.putObj D o').heap[g]? = some o := (World.putObj_heap_other hne).trans h
theorem cell_putObj_ne {W : World} {g D : Nat} {i : Nat} {v : Value} (h : W.cell? ⟨g, i, none⟩ = some v) (hne : g ≠ D) (o' : Obj) : (W.putObj D o').cell? ⟨g, i, none⟩ = some v := by
  have e : (W.putObj D o').heap[g]? = W.heap[g]? := World.putObj_heap_other hne
  simp only [World.cell?, e] at h ⊢
  exact h
theorem below_putObj_hi {n0 D : Nat} (W : World) (o : Obj) (_ : True) (h : n0 ≤ D) : Below n0 W (W.putObj D o) := by
  exact ⟨rfl, rfl, rfl, by simp [World.putObj], fun k hk => World.putObj_heap_other (by omega)⟩
theorem results_ci {P : Program} {fn : Func} {p p' : Tmp} {ty ty' : TypeId} (h : fn.results = #[.cell p ty, .cell p' ty']) (tmps : Array Value) (w : World) (g g' : Nat) (t : TypeId) (cs : Array Value) (fr : Nat × Nat) (d : TypeDesc) (kk : IntKind) (v' : Value)
    (hp : tmps.getD p undef = .pointer (some ⟨g, 0, none⟩)) (hg : w.heap[g]? = some (.cells cs t fr))
    (hu : P.underlying ty = some d) (hd : (match d with | .struct _ | .array _ _ => true | _ => false) = true) (hi : (P.info? ty).map (·.size) = some cs.size)
    (hp' : tmps.getD p' undef = .pointer (some ⟨g', 0, none⟩)) (hc : w.cell? ⟨g', 0, none⟩ = some v') (hu' : P.underlying ty' = some (.int kk)) :
    (results fn tmps).run P w = .ok (.tuple #[.agg cs, v']) w := by
  have h1 : tmps[p]?.getD undef = .pointer (some ⟨g, 0, none⟩) := by simpa using hp
  have h2 : tmps[p']?.getD undef = .pointer (some ⟨g', 0, none⟩) := by simpa using hp'
  have hagg : (isAgg ty').run P w = .ok false w := by
    unfold isAgg
    rw [Sem.run_bind, run_underlying hu' w]
    simp
  have hl : (loadVar ty' ⟨g', 0, none⟩).run P w = .ok v' w := by
    simp [loadVar, Sem.run_bind, hagg, hc, go_sem]
  simp [results, h, h1, h2, asAddr, run_loadVar_row w g t ty cs fr d hg hu hd hi, hl]
set_option maxHeartbeats 8000000 in
set_option maxRecDepth 100000 in
theorem at_c (h : Hi) (hw : wfH h) (k : Int) (hk : u64 k) (w : World) (v : Value) (hv : HI w v h) : Calls Try.prog 36 #[v, .int .u64 k] w fun e w' =>
    e = .returned (.tuple #[.agg (encB1 (atR h k).1), .int .i64 (atR h k).2]) ∧ Below w.heap.size w w' := by
  have hud := Try.underlying37
  have hub := Try.underlying62
  obtain ⟨A5, c5, A6, c6, A7, c7, A8, c8, e, -⟩ := hv.open_
  subst e
  have hal0 := below_alloc (below_alloc (below_alloc (below_alloc (Below.refl w.heap.size w) (.cells #[.int .i64 h.f0, .int .u64 h.f1, .int .u64 h.f2, .int .u64 h.f3, .int .u64 h.f4, .slice A5 h.f5.length c5, .slice A6 h.f6.length c6, .slice A7 h.f7.length c7, .slice A8 h.f8.length c8] 37)) (.cells #[.int .u64 k] 33)) (.cells #[.int .i64 0, .int .i64 0, .int .u64 0] 62)) (.cells #[.int .i64 0] 42)
  have HV := Aside0.mk (hv.below hal0)
  have X := Aside0.mk (((((Blk.new w #[.int .i64 h.f0, .int .u64 h.f1, .int .u64 h.f2, .int .u64 h.f3, .int .u64 h.f4, .slice A5 h.f5.length c5, .slice A6 h.f6.length c6, .slice A7 h.f7.length c7, .slice A8 h.f8.length c8] 37).alloc (.cells #[.int .u64 k] 33)).alloc (.cells #[.int .i64 0, .int .i64 0, .int .u64 0] 62)).alloc (.cells #[.int .i64 0] 42)))
  have hx := fun i => X.out.cell i
  have Y := Aside0.mk ((((Blk.at1 (w := w) (.cells #[.int .i64 h.f0, .int .u64 h.f1, .int .u64 h.f2, .int .u64 h.f3, .int .u64 h.f4, .slice A5 h.f5.length c5, .slice A6 h.f6.length c6, .slice A7 h.f7.length c7, .slice A8 h.f8.length c8] 37) #[.int .u64 k] 33).alloc (.cells #[.int .i64 0, .int .i64 0, .int .u64 0] 62)).alloc (.cells #[.int .i64 0] 42)))
  have hy := fun i => Y.out.cell i
  have R := Aside0.mk ((at3 w (.cells #[.int .i64 h.f0, .int .u64 h.f1, .int .u64 h.f2, .int .u64 h.f3, .int .u64 h.f4, .slice A5 h.f5.length c5, .slice A6 h.f6.length c6, .slice A7 h.f7.length c7, .slice A8 h.f8.length c8] 37) (.cells #[.int .u64 k] 33) #[.int .i64 0, .int .i64 0, .int .u64 0] 62).alloc (.cells #[.int .i64 0] 42))
  have hr := fun i => R.out.cell i
  have hrf := fun i => blk_frozen R.out i
  have S := Aside0.mk (at4 w (.cells #[.int .i64 h.f0, .int .u64 h.f1, .int .u64 h.f2, .int .u64 h.f3, .int .u64 h.f4, .slice A5 h.f5.length c5, .slice A6 h.f6.length c6, .slice A7 h.f7.length c7, .slice A8 h.f8.length c8] 37) (.cells #[.int .u64 k] 33) (.cells #[.int .i64 0, .int .i64 0, .int .u64 0] 62) #[.int .i64 0] 42)
  have hs := fun i => S.out.cell i
  have hsf := fun i => blk_frozen S.out i
  have B := Aside0.mk hal0
  have CK := Aside0.mk (check_c h hw)
  have WK := Aside0.mk (walk_c h hw)
  have HW := Aside0.mk hw
  clear hv hal0 hw
  unfold atR
  by_cases c1 : checkR h = 0
  rotate_left
  · rw [if_neg c1]
    generalize checkR h = ec at *
    have d1 : (ec != 0) = true := bne_iff_ne.2 c1
    clear c1 WK
    go_enter Try.func36, Try.ntmps36
    go_wp2_with (first | (go_at_call 72; (with_reducible refine (CK.out _ _ HV.out).mono ?_); rintro e W1 ⟨rfl, hb⟩; replace B := Aside0.mk (below_then B.out B.out.size hb); replace HV := Aside0.mk (HV.out.below hb); replace X := Aside0.mk (X.out.below hb); replace hx := fun i => X.out.cell i; replace Y := Aside0.mk (Y.out.below hb); replace hy := fun i => Y.out.cell i; replace R := Aside0.mk (R.out.below hb); replace hr := fun i => R.out.cell i; replace S := Aside0.mk (S.out.below hb); replace hs := fun i => S.out.cell i; replace hrf := fun i => blk_frozen R.out i; replace hsf := fun i => blk_frozen S.out i; have LOWA := Aside0.mk hb.size; clear hb))
    refine bodyPost_ret (results_ci rfl _ _ (w.heap.size + 1 + 1) (w.heap.size + 1 + 1 + 1) 62 #[_, _, _] (0, 0) _ .i64 (.int .i64 ec) rfl (blk_put_ne (three R.out _ _ _) (by omega) _) Try.underlying62 rfl (by kernel_rfl) rfl (cell_put1 S.out (by omega) _ _ _ _) Try.underlying42) rfl ?_
    exact ⟨rfl, (((B.out.setCell (by simp; omega) _).setCell (by simp; omega) _).setCell (by simp; omega) _).setCell (by simp; omega) _⟩
  rw [if_pos c1]
  rw [c1] at CK
  have HC := Aside0.mk c1
  clear c1
  by_cases c2 : 0 < k
  rotate_left
  · rw [if_neg c2]
    have d2 : decide (0 < k) = false := decide_eq_false c2
    go_enter Try.func36, Try.ntmps36
    go_wp2_with (first | (go_at_call 72; (with_reducible refine (CK.out _ _ HV.out).mono ?_); rintro e W1 ⟨rfl, hb⟩; replace B := Aside0.mk (below_then B.out B.out.size hb); replace HV := Aside0.mk (HV.out.below hb); replace X := Aside0.mk (X.out.below hb); replace hx := fun i => X.out.cell i; replace Y := Aside0.mk (Y.out.below hb); replace hy := fun i => Y.out.cell i; replace R := Aside0.mk (R.out.below hb); replace hr := fun i => R.out.cell i; replace S := Aside0.mk (S.out.below hb); replace hs := fun i => S.out.cell i; replace hrf := fun i => blk_frozen R.out i; replace hsf := fun i => blk_frozen S.out i; have LOWA := Aside0.mk hb.size; clear hb))
    refine bodyPost_ret (results_ci rfl _ _ (w.heap.size + 1 + 1) (w.heap.size + 1 + 1 + 1) 62 #[_, _, _] (0, 0) _ .i64 (.int .i64 11) rfl (blk_put_ne (three R.out _ _ _) (by omega) _) Try.underlying62 rfl (by kernel_rfl) rfl (cell_put1 S.out (by omega) _ _ _ _) Try.underlying42) rfl ?_
    exact ⟨rfl, (((B.out.setCell (by simp; omega) _).setCell (by simp; omega) _).setCell (by simp; omega) _).setCell (by simp; omega) _⟩
  rw [if_pos c2]
  generalize hans : (match findK (toldW h) k with | some b => ((b, 0) : Bk × Int) | none => (⟨0, 0, 0⟩, 11)) = ans
  have HANS := Aside0.mk hans
  clear hans
  have d2 : decide (0 < k) = true := decide_eq_true c2
  have C2 := Aside0.mk c2
  clear c2
  refine (callsIn_wide (n := 5)).1 ?_
  refine callsIn_of_wp_marks Try.func36 rfl trivial ?_ rfl
  simp only [Try.ntmps36, List.size_toArray, List.length_cons, List.length_nil, Nat.reduceAdd, Nat.reduceSub, Array.replicate_succ, Array.replicate_zero, List.push_toArray, List.append_toArray, List.nil_append, List.cons_append]
  refine wpIn_wide.2 ?_
  go_wp2_with (first | (go_at_call 72; (with_reducible refine (CK.out _ _ HV.out).mono ?_); rintro e W1 ⟨rfl, hb⟩; replace B := Aside0.mk (below_then B.out B.out.size hb); replace HV := Aside0.mk (HV.out.below hb); replace X := Aside0.mk (X.out.below hb); replace hx := fun i => X.out.cell i; replace Y := Aside0.mk (Y.out.below hb); replace hy := fun i => Y.out.cell i; replace R := Aside0.mk (R.out.below hb); replace hr := fun i => R.out.cell i; replace S := Aside0.mk (S.out.below hb); replace hs := fun i => S.out.cell i; replace hrf := fun i => blk_frozen R.out i; replace hsf := fun i => blk_frozen S.out i; have LOWA := Aside0.mk hb.size; clear hb) | (go_at_call 32; (with_reducible refine (WK.out _ _ HV.out).mono ?_); rintro e W2 ⟨bE, bN, bH, bP, rfl, hS, hb⟩; replace B := Aside0.mk (below_then B.out B.out.size hb); replace HV := Aside0.mk (HV.out.below hb); replace X := Aside0.mk (X.out.below hb); replace hx := fun i => X.out.cell i; replace Y := Aside0.mk (Y.out.below hb); replace hy := fun i => Y.out.cell i; replace R := Aside0.mk (R.out.below hb); replace hr := fun i => R.out.cell i; replace S := Aside0.mk (S.out.below hb); replace hs := fun i => S.out.cell i; replace hrf := fun i => blk_frozen R.out i; replace hsf := fun i => blk_frozen S.out i; have HS := Aside0.mk hS; have HB2 := Aside0.mk hb; clear hS hb))
  refine (wpIn_wide (n := 5)).1 ?_
  have hw1 : w.heap.size + 1 + 1 + 1 + 1 ≤ W1.heap.size := by have := LOWA.out; simpa using this
  have hw2 : W1.heap.size ≤ W2.heap.size := HB2.out.size
  have HR2 := Aside0.mk (R.out)
  have HY2 := Aside0.mk (Y.out)
  have HS2 := Aside0.mk (S.out)
  have HB0 := Aside0.mk B.out
  have HBA := Aside0.mk HS.out
  clear hx hy hr hs hrf hsf HB2 CK
  refine wpIn_rangeFunc_ownH rfl (by omega) (gf := 95) (lb := #[.pointer (some ⟨bE, 0, none⟩), .pointer (some ⟨bN, 0, none⟩), .pointer (some ⟨bH, 0, none⟩), .pointer (some ⟨bP, 0, none⟩)]) rfl trivial (enters_of Try.func95 (by kernel_rfl) rfl)
    (walk1_stops _ (by omega) W1.heap.size bE bN bH bP h HW.out W2 hw2 HS.out) KeepC.trans (fun W l o o' _ h hc _ => KeepC.put W l o o' h hc) (Below.refl _ _) (fun _ => rfl)
    (fun pre W => (findK (toldL h pre) k = none ∧ Blk W (w.heap.size + 1) #[.int .u64 (leftK (toldL h pre) k)] 33) ∧ (Blk W (w.heap.size + 1 + 1) #[.int .i64 0, .int .i64 0, .int .u64 0] 62 ∧ Blk W (w.heap.size + 1 + 1 + 1) #[.int .i64 0] 42) ∧ (Below w.heap.size w W ∧ W2.heap.size ≤ W.heap.size))
    (fun c pre W => c = .ret ∧ (∃ b, findK (toldL h pre) k = some b ∧ Blk W (w.heap.size + 1 + 1) (encB1 b) 62) ∧ Blk W (w.heap.size + 1 + 1 + 1) #[.int .i64 0] 42 ∧ (Below w.heap.size w W ∧ W2.heap.size ≤ W.heap.size))
    (fun s A B row ⟨⟨q1, q2⟩, ⟨q3, q4⟩, q5, q6⟩ hg hr => ⟨⟨q1, q2.grown hg hr⟩, ⟨q3.grown hg hr, q4.grown hg hr⟩, (ownFrom_below (Nat.le_refl _) (by omega)) s A B row q5 hg hr, Nat.le_trans q6 hg.size⟩)
    (fun c s A B row ⟨q0, ⟨b, q1, q2⟩, q4, q5, q6⟩ hg hr => ⟨q0, ⟨b, q1, q2.grown hg hr⟩, q4.grown hg hr, (ownFrom_below (Nat.le_refl _) (by omega)) s A B row q5 hg hr, Nat.le_trans q6 hg.size⟩)
    ⟨⟨rfl, HY2.out⟩, ⟨HR2.out, HS2.out⟩, HB0.out, Nat.le_refl _⟩
    (fun x a' W => ∃ b, a' = ({ tmps := #[.agg #[.int .i64 h.f0, .int .u64 h.f1, .int .u64 h.f2, .int .u64 h.f3, .int .u64 h.f4, .slice A5 h.f5.length c5, .slice A6 h.f6.length c6, .slice A7 h.f7.length c7, .slice A8 h.f8.length c8], .int .u64 k, .pointer (some ⟨w.heap.size, 0, none⟩), .pointer (some ⟨w.heap.size + 1, 0, none⟩), .pointer (some ⟨w.heap.size + 1 + 1, 0, none⟩), .pointer (some ⟨w.heap.size + 1 + 1 + 1, 0, none⟩), .int .i64 0, .pointer (some ⟨b, 0, none⟩), .agg #[.int .i64 h.f0, .int .u64 h.f1, .int .u64 h.f2, .int .u64 h.f3, .int .u64 h.f4, .slice A5 h.f5.length c5, .slice A6 h.f6.length c6, .slice A7 h.f7.length c7, .slice A8 h.f8.length c8], .int .i64 0, .int .i64 0, .bool false, undef, undef, .int .u64 k, .bool true, .agg #[.int .i64 h.f0, .int .u64 h.f1, .int .u64 h.f2, .int .u64 h.f3, .int .u64 h.f4, .slice A5 h.f5.length c5, .slice A6 h.f6.length c6, .slice A7 h.f7.length c7, .slice A8 h.f8.length c8], .func (.func 95) #[] #[.pointer (some ⟨bE, 0, none⟩), .pointer (some ⟨bN, 0, none⟩), .pointer (some ⟨bH, 0, none⟩), .pointer (some ⟨bP, 0, none⟩)], encB ((toldW h).get x), undef, undef, undef, undef, undef, undef, undef, undef, undef, undef], defers := [] } : Act) ∧ BlkF W b (encB1 ((toldW h).get x)) ∧ W2.heap.size ≤ b) (fun x a' s A B row ⟨b, e, hb, hge⟩ hg hr => ⟨b, e, hb.grown hg hr, hge⟩) ?assign ?body ?done ?stop
  case assign =>
    intro l pre x W K hI hK
    have HI_ := Aside0.mk hI
    have HK := Aside0.mk hK
    clear hI hK
    obtain ⟨y, hy⟩ : ∃ y, y = (toldW h).get x := ⟨_, rfl⟩
    have HY := Aside0.mk hy
    simp only [← hy]
    clear hy
    unfold encB
    gi_wp2
    have hbl := below_alloc (Below.refl W.heap.size W) (.cells (encB1 y) 62)
    obtain ⟨⟨q1, q2⟩, ⟨q3, q4⟩, q5, q6⟩ := HI_.out
    refine HK.out _ _ ((KeepsOthers.alloc W (.cells (encB1 y) 62)).from _) (KeepC.of_below hbl) ⟨⟨q1, q2.alloc _⟩, ⟨q3.alloc _, q4.alloc _⟩, below_then q5 q5.size hbl, Nat.le_trans q6 hbl.size⟩ ⟨W.heap.size, ?_, ?_, q6⟩
    · rw [← HY.out]; rfl
    · rw [← HY.out]; exact Blk.new W _ _
  case body =>
    rintro l pre x a' W hl hlr ⟨⟨q1, q2⟩, ⟨q3, q4⟩, q5, q6⟩ ⟨b, rfl, hb, hge⟩ hlt
    have hxin : (toldW h).get x ∈ toldW h := List.get_mem _ _
    obtain ⟨y, hy⟩ : ∃ y, y = (toldW h).get x := ⟨_, rfl⟩
    have HT := Aside0.mk (toldL_snoc h pre x)
    rw [← hy] at hb HT hxin
    simp only [← hy]
    clear hy
    have hfk := findK_app (toldL h pre) [y] k
    have hlk : leftK (toldL h pre ++ [y]) k = leftK (toldL h pre) k - y.n := by rw [leftK_sum, leftK_sum, sumB_snoc]; omega
    have hpos := findK_left (toldL h pre) k (fun b hb => by obtain ⟨i, _, rfl⟩ := List.mem_map.1 hb; exact (toldW_u64 HW.out _ (List.get_mem _ _)).1) C2.out q1
    rw [q1, ← HT.out] at hfk
    rw [← HT.out] at hlk
    simp only [findK] at hfk
    have hyu := toldW_u64 HW.out y hxin
    generalize leftK (toldL h pre) k = kl at *
    unfold encB
    have hc := fun i => Blk.cell q2 i
    have hcf := fun i => blk_frozen q2 i
    have hbc := fun i => Blk.cell hb i
    have hrc := fun i => Blk.cell q3 i
    have hrf := fun i => blk_frozen q3 i
    have hsc := fun i => Blk.cell q4 i
    have hsf := fun i => blk_frozen q4 i
    have K2 := Aside0.mk q2
    have K3 := Aside0.mk q3
    have K4 := Aside0.mk q4
    have K5 := Aside0.mk q5
    have K6 := Aside0.mk q6
    have HBB := Aside0.mk hb
    have HU := Aside0.mk hyu
    have HP := Aside0.mk hpos
    have HF := Aside0.mk hfk
    have HL := Aside0.mk hlk
    clear q1 q2 q3 q4 q5 q6 hb hl hlr hlt hyu hpos hfk hlk hxin
    unfold encB1 at hbc
    by_cases cc : kl ≤ y.n
    · have d3 : decide (kl ≤ y.n) = true := decide_eq_true cc
      have HC3 := Aside0.mk cc
      clear cc
      gi_wp2
      refine ⟨((((KeepsOthers.setCell _ _ _).trans (KeepsOthers.setCell _ _ _)).trans (KeepsOthers.setCell _ _ _)).trans (KeepsOthers.setCell _ _ _)).from _, rfl, ⟨y, ?_, blk_put_ne (three K3.out _ _ _) (by omega) _⟩, ?_, ?_, ?_⟩
      · rw [HF.out, if_pos HC3.out]
      · exact Boxed.set _ (blk_put_ne (j := 2) (blk_put_ne (j := 1) (blk_put_ne (j := 0) K4.out (by omega) _) (by omega) _) (by omega) _)
      · exact (((K5.out.setCell (by simp; omega) _).setCell (by simp; omega) _).setCell (by simp; omega) _).setCell (by simp; omega) _
      · have h6_ := K6.out; simpa [World.setCell] using h6_
    · have d3 : decide (kl ≤ y.n) = false := decide_eq_false cc
      have HC3 := Aside0.mk cc
      clear cc
      have hw_ : IntKind.u64.wrap (kl - y.n) = kl - y.n := by
        have h_ : IntKind.u64.wrap (kl - y.n) = (kl - y.n) % 18446744073709551616 := rfl
        have h1_ := HU.out; have h2_ := HP.out; have h3_ := HC3.out
        unfold u64 at hk h1_
        rw [h_]; omega
      gi_wp2
      refine ⟨(KeepsOthers.setCell _ _ _).from _, KeepC.setCell _ (by omega) _, ⟨?_, ?_⟩, ⟨blk_put_ne K3.out (by omega) _, blk_put_ne K4.out (by omega) _⟩, K5.out.setCell (by show w.heap.size ≤ w.heap.size + 1; omega) _, ?_⟩
      · rw [HF.out, if_neg (by have h3_ := HC3.out; omega)]
      · rw [HL.out]; exact Boxed.set _ K2.out
      · have h6_ := K6.out; simpa [World.setCell] using h6_
  case done =>
    rintro D xs W hD hS ⟨⟨q1, q2⟩, ⟨q3, q4⟩, q5, q6⟩ hK
    rw [toldL_all hS] at q1
    have hf : ans = (⟨0, 0, 0⟩, 11) := by rw [← HANS.out, q1]
    have HF := Aside0.mk hf
    clear hf
    have hrc := fun i => Blk.cell q3 i
    have hrf := fun i => blk_frozen q3 i
    have hsc := fun i => Blk.cell q4 i
    have hsf := fun i => blk_frozen q4 i
    have K3 := Aside0.mk q3
    have K4 := Aside0.mk q4
    have K5 := Aside0.mk q5
    have HK := Aside0.mk hK
    clear q1 q2 q3 q4 q5 q6 hK hS
    go_wp2
    refine ⟨by simp, .inl ⟨_, _, rfl, run_takeDeferred (blk_put_ne (blk_put_ne (j := 2) (blk_put_ne (j := 1) (blk_put_ne (j := 0) HK.out (by omega) _) (by omega) _) (by omega) _) (by omega) _), ?_⟩⟩
    refine ⟨_, results_ci rfl _ _ (w.heap.size + 1 + 1) (w.heap.size + 1 + 1 + 1) 62 #[_, _, _] (0, 0) _ .i64 (.int .i64 11) rfl (blk_putObj_ne (blk_put_ne (three K3.out _ _ _) (by omega) _) (by omega) _) Try.underlying62 rfl (by kernel_rfl) rfl (cell_putObj_ne (cell_put1 K4.out (by omega) _ _ _ _) (by omega) _) Try.underlying42, ?_, ?_⟩
    · rw [HF.out]; rfl
    · exact ((((K5.out.setCell (by simp; omega) _).setCell (by simp; omega) _).setCell (by simp; omega) _).setCell (by simp; omega) _).trans (below_putObj_hi _ _ trivial (by omega))
  case stop =>
    rintro D c pre W hD hS ⟨rfl, ⟨b, q1, q2⟩, q4, q5, q6⟩ hK
    have hf : findK (toldW h) k = some b := by
      rw [toldL_take hS] at q1
      rw [← List.take_append_drop pre.length (toldW h), findK_app, q1]
    have hf : ans = (b, 0) := by rw [← HANS.out, hf]
    have HF := Aside0.mk hf
    have K3 := Aside0.mk q2
    have K4 := Aside0.mk q4
    have K5 := Aside0.mk q5
    have HK := Aside0.mk hK
    clear q1 q2 q4 q5 q6 hK hS hf
    gi_wp2
    refine ⟨by simp, .inl ⟨_, _, rfl, run_takeDeferred HK.out, ?_⟩⟩
    refine ⟨_, results_ci rfl _ _ (w.heap.size + 1 + 1) (w.heap.size + 1 + 1 + 1) 62 (encB1 b) (0, 0) _ .i64 (.int .i64 0) rfl (blk_putObj_ne K3.out (by omega) _) Try.underlying62 rfl (by kernel_rfl) rfl (cell_putObj_ne ((Blk.cell K4.out 0).trans rfl) (by omega) _) Try.underlying42, ?_, ?_⟩
    · rw [HF.out]
    · exact K5.out.trans (below_putObj_hi _ _ trivial (by omega))
end Go.Proofs.Ytcabapilejagkaa.P
namespace Go.Proofs.Ytcabapilejagkaa.P
open Go.RowKit Go.Proofs.YtcabapilejagkaaW.PrintWords Go.Proofs.YtcabapilejagkaaW.PrintLast Go.Proofs.YtcabapilejagkaaW.PrintMore
attribute [local go_sem] max2_int min2_int max_two min_two max_three min_three max_four min_four
set_option linter.unusedVariables false
set_option linter.unusedSimpArgs false
def cmp_isNaN_int.f (a0 : Int) : Option (Bool) := some (a0 != a0)
set_option maxHeartbeats 8000000 in
set_option maxRecDepth 100000 in
theorem cmp_isNaN_int.calls (a0 : Int) (r : Bool) (w : World) (h : cmp_isNaN_int.f a0 = some r) :
  Calls Try.prog 158 #[.int .i64 a0] w fun e w' => e = .returned (.bool r) ∧ Drawn0 w w' := by
 have H : (some (a0 != a0)) = some r := h
 clear h
 obtain rfl := Option.some.inj H
 go_enter Try.func158, Try.ntmps158
 go_wp2
 go_ret
 exact ⟨by first | rfl | (simp; done) | (simp [*]; done), by repeat (first | exact Drawn0.refl _ | apply Drawn0.step)⟩
def cmp_Compare_int.f (a0 : Int) (a1 : Int) : Option (Int) := (cmp_isNaN_int.f a0).bind fun t101 => ((cmp_isNaN_int.f a1).bind fun t102 => (if t101 = true then (if t102 = true then (some 0) else (some (-1))) else (if t102 = true then (some 1) else (if a0 < a1 then (some (-1)) else (if a0 > a1 then (some 1) else (some 0))))))
set_option maxHeartbeats 8000000 in
set_option maxRecDepth 100000 in
theorem cmp_Compare_int.calls (a0 : Int) (a1 : Int) (r : Int) (w : World) (h : cmp_Compare_int.f a0 a1 = some r) :
  Calls Try.prog 137 #[.int .i64 a0, .int .i64 a1] w fun e w' => e = .returned (.int .i64 r) ∧ Drawn0 w w' := by
 have H : ((cmp_isNaN_int.f a0).bind fun t101 => ((cmp_isNaN_int.f a1).bind fun t102 => (if t101 = true then (if t102 = true then (some 0) else (some (-1))) else (if t102 = true then (some 1) else (if a0 < a1 then (some (-1)) else (if a0 > a1 then (some 1) else (some 0))))))) = some r := h
 clear h
 replace H := Option.bind_eq_some_iff.mp H
 obtain ⟨t101, A30, H⟩ := H
 replace H : ((cmp_isNaN_int.f a1).bind fun t102 => (if t101 = true then (if t102 = true then (some 0) else (some (-1))) else (if t102 = true then (some 1) else (if a0 < a1 then (some (-1)) else (if a0 > a1 then (some 1) else (some 0)))))) = some r := H
 have A3 := Aside0.mk A30
 clear A30
 replace H := Option.bind_eq_some_iff.mp H
 obtain ⟨t102, A40, H⟩ := H
 replace H : (if t101 = true then (if t102 = true then (some 0) else (some (-1))) else (if t102 = true then (some 1) else (if a0 < a1 then (some (-1)) else (if a0 > a1 then (some 1) else (some 0))))) = some r := H
 have A4 := Aside0.mk A40
 clear A40
 by_cases c5 : t101 = true
 ·subst c5
  have H1 : (if t102 = true then (some 0) else (some (-1))) = some r := by rw [if_pos rfl] at H; exact H
  clear H
  have H := H1
  clear H1
  by_cases c6 : t102 = true
  ·subst c6
   have H1 : (some 0) = some r := by rw [if_pos rfl] at H; exact H
   clear H
   have H := H1
   clear H1
   obtain rfl := Option.some.inj H
   go_enter Try.func137, Try.ntmps137
   go_wp2_with (first | ((with_reducible refine gate_callee (f := 158) rfl ?_); refine goesL_ (some 8) rfl rfl Try.func158 (by kernel_rfl) rfl #[.int .i64 a0] rfl (by (try simp only [List.map_toArray, List.map_cons, List.map_nil]); first | done | rfl | (simp only [List.length_drop, List.length_take]; rfl)) ?_; (with_reducible refine (cmp_isNaN_int.calls a0 true _ A3.out).mono ?_); rintro e w' ⟨rfl, ⟨nd, rfl⟩⟩; refine ⟨_, rfl, ?_⟩; clear A3) | ((with_reducible refine gate_callee (f := 158) rfl ?_); refine goesL_ (some 10) rfl rfl Try.func158 (by kernel_rfl) rfl #[.int .i64 a1] rfl (by (try simp only [List.map_toArray, List.map_cons, List.map_nil]); first | done | rfl | (simp only [List.length_drop, List.length_take]; rfl)) ?_; (with_reducible refine (cmp_isNaN_int.calls a1 true _ A4.out).mono ?_); rintro e w' ⟨rfl, ⟨nd, rfl⟩⟩; refine ⟨_, rfl, ?_⟩; clear A4))
   go_ret
   exact ⟨by first | rfl | (simp; done) | (simp [*]; done), by repeat (first | exact Drawn0.refl _ | apply Drawn0.step)⟩
  ·replace c6 := Bool.eq_false_iff.mpr c6
   subst c6
   have H1 : (some (-1)) = some r := by rw [if_neg (show ¬ (false = true) by decide)] at H; exact H
   clear H
   have H := H1
   clear H1
   obtain rfl := Option.some.inj H
   go_enter Try.func137, Try.ntmps137
   go_wp2_with (first | ((with_reducible refine gate_callee (f := 158) rfl ?_); refine goesL_ (some 8) rfl rfl Try.func158 (by kernel_rfl) rfl #[.int .i64 a0] rfl (by (try simp only [List.map_toArray, List.map_cons, List.map_nil]); first | done | rfl | (simp only [List.length_drop, List.length_take]; rfl)) ?_; (with_reducible refine (cmp_isNaN_int.calls a0 true _ A3.out).mono ?_); rintro e w' ⟨rfl, ⟨nd, rfl⟩⟩; refine ⟨_, rfl, ?_⟩; clear A3) | ((with_reducible refine gate_callee (f := 158) rfl ?_); refine goesL_ (some 10) rfl rfl Try.func158 (by kernel_rfl) rfl #[.int .i64 a1] rfl (by (try simp only [List.map_toArray, List.map_cons, List.map_nil]); first | done | rfl | (simp only [List.length_drop, List.length_take]; rfl)) ?_; (with_reducible refine (cmp_isNaN_int.calls a1 false _ A4.out).mono ?_); rintro e w' ⟨rfl, ⟨nd, rfl⟩⟩; refine ⟨_, rfl, ?_⟩; clear A4))
   go_ret
   exact ⟨by first | rfl | (simp; done) | (simp [*]; done), by repeat (first | exact Drawn0.refl _ | apply Drawn0.step)⟩
 ·replace c5 := Bool.eq_false_iff.mpr c5
  subst c5
  have H1 : (if t102 = true then (some 1) else (if a0 < a1 then (some (-1)) else (if a0 > a1 then (some 1) else (some 0)))) = some r := by rw [if_neg (show ¬ (false = true) by decide)] at H; exact H
  clear H
  have H := H1
  clear H1
  by_cases c7 : t102 = true
  ·subst c7
   have H1 : (some 1) = some r := by rw [if_pos rfl] at H; exact H
   clear H
   have H := H1
   clear H1
   obtain rfl := Option.some.inj H
   go_enter Try.func137, Try.ntmps137
   go_wp2_with (first | ((with_reducible refine gate_callee (f := 158) rfl ?_); refine goesL_ (some 8) rfl rfl Try.func158 (by kernel_rfl) rfl #[.int .i64 a0] rfl (by (try simp only [List.map_toArray, List.map_cons, List.map_nil]); first | done | rfl | (simp only [List.length_drop, List.length_take]; rfl)) ?_; (with_reducible refine (cmp_isNaN_int.calls a0 false _ A3.out).mono ?_); rintro e w' ⟨rfl, ⟨nd, rfl⟩⟩; refine ⟨_, rfl, ?_⟩; clear A3) | ((with_reducible refine gate_callee (f := 158) rfl ?_); refine goesL_ (some 10) rfl rfl Try.func158 (by kernel_rfl) rfl #[.int .i64 a1] rfl (by (try simp only [List.map_toArray, List.map_cons, List.map_nil]); first | done | rfl | (simp only [List.length_drop, List.length_take]; rfl)) ?_; (with_reducible refine (cmp_isNaN_int.calls a1 true _ A4.out).mono ?_); rintro e w' ⟨rfl, ⟨nd, rfl⟩⟩; refine ⟨_, rfl, ?_⟩; clear A4))
   go_ret
   exact ⟨by first | rfl | (simp; done) | (simp [*]; done), by repeat (first | exact Drawn0.refl _ | apply Drawn0.step)⟩
  ·replace c7 := Bool.eq_false_iff.mpr c7
   subst c7
   have H1 : (if a0 < a1 then (some (-1)) else (if a0 > a1 then (some 1) else (some 0))) = some r := by rw [if_neg (show ¬ (false = true) by decide)] at H; exact H
   clear H
   have H := H1
   clear H1
   by_cases c8 : a0 < a1
   ·rw [if_pos c8] at H
    have c8b0 : decide (a0 < a1) = true := decide_eq_true c8
    clear c8
    obtain rfl := Option.some.inj H
    go_enter Try.func137, Try.ntmps137
    go_wp2_with (first | ((with_reducible refine gate_callee (f := 158) rfl ?_); refine goesL_ (some 8) rfl rfl Try.func158 (by kernel_rfl) rfl #[.int .i64 a0] rfl (by (try simp only [List.map_toArray, List.map_cons, List.map_nil]); first | done | rfl | (simp only [List.length_drop, List.length_take]; rfl)) ?_; (with_reducible refine (cmp_isNaN_int.calls a0 false _ A3.out).mono ?_); rintro e w' ⟨rfl, ⟨nd, rfl⟩⟩; refine ⟨_, rfl, ?_⟩; clear A3) | ((with_reducible refine gate_callee (f := 158) rfl ?_); refine goesL_ (some 10) rfl rfl Try.func158 (by kernel_rfl) rfl #[.int .i64 a1] rfl (by (try simp only [List.map_toArray, List.map_cons, List.map_nil]); first | done | rfl | (simp only [List.length_drop, List.length_take]; rfl)) ?_; (with_reducible refine (cmp_isNaN_int.calls a1 false _ A4.out).mono ?_); rintro e w' ⟨rfl, ⟨nd, rfl⟩⟩; refine ⟨_, rfl, ?_⟩; clear A4))
    go_ret
    exact ⟨by first | rfl | (simp; done) | (simp [*]; done), by repeat (first | exact Drawn0.refl _ | apply Drawn0.step)⟩
   ·rw [if_neg c8] at H
    have c8b0 : decide (a0 < a1) = false := decide_eq_false c8
    clear c8
    by_cases c9 : a0 > a1
    ·rw [if_pos c9] at H
     have c9b0 : decide (a1 < a0) = true := decide_eq_true c9
     clear c9
     obtain rfl := Option.some.inj H
     go_enter Try.func137, Try.ntmps137
     go_wp2_with (first | ((with_reducible refine gate_callee (f := 158) rfl ?_); refine goesL_ (some 8) rfl rfl Try.func158 (by kernel_rfl) rfl #[.int .i64 a0] rfl (by (try simp only [List.map_toArray, List.map_cons, List.map_nil]); first | done | rfl | (simp only [List.length_drop, List.length_take]; rfl)) ?_; (with_reducible refine (cmp_isNaN_int.calls a0 false _ A3.out).mono ?_); rintro e w' ⟨rfl, ⟨nd, rfl⟩⟩; refine ⟨_, rfl, ?_⟩; clear A3) | ((with_reducible refine gate_callee (f := 158) rfl ?_); refine goesL_ (some 10) rfl rfl Try.func158 (by kernel_rfl) rfl #[.int .i64 a1] rfl (by (try simp only [List.map_toArray, List.map_cons, List.map_nil]); first | done | rfl | (simp only [List.length_drop, List.length_take]; rfl)) ?_; (with_reducible refine (cmp_isNaN_int.calls a1 false _ A4.out).mono ?_); rintro e w' ⟨rfl, ⟨nd, rfl⟩⟩; refine ⟨_, rfl, ?_⟩; clear A4))
     go_ret
     exact ⟨by first | rfl | (simp; done) | (simp [*]; done), by repeat (first | exact Drawn0.refl _ | apply Drawn0.step)⟩
    ·rw [if_neg c9] at H
     have c9b0 : decide (a1 < a0) = false := decide_eq_false c9
     clear c9
     obtain rfl := Option.some.inj H
     go_enter Try.func137, Try.ntmps137
     go_wp2_with (first | ((with_reducible refine gate_callee (f := 158) rfl ?_); refine goesL_ (some 8) rfl rfl Try.func158 (by kernel_rfl) rfl #[.int .i64 a0] rfl (by (try simp only [List.map_toArray, List.map_cons, List.map_nil]); first | done | rfl | (simp only [List.length_drop, List.length_take]; rfl)) ?_; (with_reducible refine (cmp_isNaN_int.calls a0 false _ A3.out).mono ?_); rintro e w' ⟨rfl, ⟨nd, rfl⟩⟩; refine ⟨_, rfl, ?_⟩; clear A3) | ((with_reducible refine gate_callee (f := 158) rfl ?_); refine goesL_ (some 10) rfl rfl Try.func158 (by kernel_rfl) rfl #[.int .i64 a1] rfl (by (try simp only [List.map_toArray, List.map_cons, List.map_nil]); first | done | rfl | (simp only [List.length_drop, List.length_take]; rfl)) ?_; (with_reducible refine (cmp_isNaN_int.calls a1 false _ A4.out).mono ?_); rintro e w' ⟨rfl, ⟨nd, rfl⟩⟩; refine ⟨_, rfl, ?_⟩; clear A4))
     go_ret
     exact ⟨by first | rfl | (simp; done) | (simp [*]; done), by repeat (first | exact Drawn0.refl _ | apply Drawn0.step)⟩
def rank_third.f (a0 : Int) : Option (Int) := if a0 = 1 then (some 0) else (if a0 = 2 then (some 1) else (some 2))
set_option maxHeartbeats 8000000 in
set_option maxRecDepth 100000 in
theorem rank_third.calls (a0 : Int) (r : Int) (w : World) (h : rank_third.f a0 = some r) :
  Calls Try.prog 138 #[.int .i64 a0] w fun e w' => e = .returned (.int .i64 r) ∧ Drawn0 w w' := by
 have H : (if a0 = 1 then (some 0) else (if a0 = 2 then (some 1) else (some 2))) = some r := h
 clear h
 by_cases c2 : a0 = 1
 ·rw [if_pos c2] at H
  have c2b0 : (a0 == 1) = true := beq_iff_eq.mpr c2
  have c2b1 : (a0 != 1) = false := bne_eq_false_iff_eq.mpr c2
  clear c2
  obtain rfl := Option.some.inj H
  go_enter Try.func138, Try.ntmps138
  go_wp2
  go_ret
  exact ⟨by first | rfl | (simp; done) | (simp [*]; done), by repeat (first | exact Drawn0.refl _ | apply Drawn0.step)⟩
 ·rw [if_neg c2] at H
  have c2b0 : (a0 == 1) = false := beq_eq_false_iff_ne.mpr c2
  have c2b1 : (a0 != 1) = true := bne_iff_ne.mpr c2
  by_cases c3 : a0 = 2
  ·rw [if_pos c3] at H
   have c3b0 : (a0 == 2) = true := beq_iff_eq.mpr c3
   have c3b1 : (a0 != 2) = false := bne_eq_false_iff_eq.mpr c3
   clear c3
   obtain rfl := Option.some.inj H
   go_enter Try.func138, Try.ntmps138
   go_wp2
   go_ret
   exact ⟨by first | rfl | (simp; done) | (simp [*]; done), by repeat (first | exact Drawn0.refl _ | apply Drawn0.step)⟩
  ·rw [if_neg c3] at H
   have c3b0 : (a0 == 2) = false := beq_eq_false_iff_ne.mpr c3
   have c3b1 : (a0 != 2) = true := bne_iff_ne.mpr c3
   obtain rfl := Option.some.inj H
   go_enter Try.func138, Try.ntmps138
   go_wp2
   go_ret
   exact ⟨by first | rfl | (simp; done) | (simp [*]; done), by repeat (first | exact Drawn0.refl _ | apply Drawn0.step)⟩
def rank_behind.f (a0_0 : Int) (a0_1 : Int) (a0_2 : Int) (a1 : Int) (a2 : Int) : Option (Bool) := (rank_third.f a0_0).bind fun t102 => ((rank_third.f a1).bind fun t103 => ((cmp_Compare_int.f t102 t103).bind fun t104 => (if t104 = 0 then (if a1 = 1 then (some (decide (a0_1 < a2))) else (if a1 = 0 then (some (decide (a0_1 > a2))) else (some false))) else (some (decide (t104 > 0))))))
set_option maxHeartbeats 8000000 in
set_option maxRecDepth 100000 in
theorem rank_behind.calls (a0_0 : Int) (a0_1 : Int) (a0_2 : Int) (a1 : Int) (a2 : Int) (r : Bool) (w : World) (h : rank_behind.f a0_0 a0_1 a0_2 a1 a2 = some r) :
  Calls Try.prog 100 #[.agg #[.int .i64 a0_0, .int .i64 a0_1, .int .u64 a0_2], .int .i64 a1, .int .i64 a2] w fun e w' => e = .returned (.bool r) ∧ Below w.heap.size w w' := by
 have hu62 := Try.underlying62
 have HB := Aside0.mk (Below.refl w.heap.size w)
 have H : ((rank_third.f a0_0).bind fun t102 => ((rank_third.f a1).bind fun t103 => ((cmp_Compare_int.f t102 t103).bind fun t104 => (if t104 = 0 then (if a1 = 1 then (some (decide (a0_1 < a2))) else (if a1 = 0 then (some (decide (a0_1 > a2))) else (some false))) else (some (decide (t104 > 0))))))) = some r := h
 clear h
 replace H := Option.bind_eq_some_iff.mp H
 obtain ⟨t102, A40, H⟩ := H
 replace H : ((rank_third.f a1).bind fun t103 => ((cmp_Compare_int.f t102 t103).bind fun t104 => (if t104 = 0 then (if a1 = 1 then (some (decide (a0_1 < a2))) else (if a1 = 0 then (some (decide (a0_1 > a2))) else (some false))) else (some (decide (t104 > 0)))))) = some r := H
 have A4 := Aside0.mk A40
 clear A40
 replace H := Option.bind_eq_some_iff.mp H
 obtain ⟨t103, A50, H⟩ := H
 replace H : ((cmp_Compare_int.f t102 t103).bind fun t104 => (if t104 = 0 then (if a1 = 1 then (some (decide (a0_1 < a2))) else (if a1 = 0 then (some (decide (a0_1 > a2))) else (some false))) else (some (decide (t104 > 0))))) = some r := H
 have A5 := Aside0.mk A50
 clear A50
 replace H := Option.bind_eq_some_iff.mp H
 obtain ⟨t104, A60, H⟩ := H
 replace H : (if t104 = 0 then (if a1 = 1 then (some (decide (a0_1 < a2))) else (if a1 = 0 then (some (decide (a0_1 > a2))) else (some false))) else (some (decide (t104 > 0)))) = some r := H
 have A6 := Aside0.mk A60
 clear A60
 by_cases c7 : t104 = 0
 ·rw [if_pos c7] at H
  have c7b0 : (t104 == 0) = true := beq_iff_eq.mpr c7
  have c7b1 : (t104 != 0) = false := bne_eq_false_iff_eq.mpr c7
  clear c7
  by_cases c8 : a1 = 1
  ·rw [if_pos c8] at H
   have c8b0 : (a1 == 1) = true := beq_iff_eq.mpr c8
   have c8b1 : (a1 != 1) = false := bne_eq_false_iff_eq.mpr c8
   clear c8
   obtain rfl := Option.some.inj H
   go_enter Try.func100, Try.ntmps100
   go_wp2_with (first | ((with_reducible refine gate_dst (N := 3) rfl ?_); refine box_event ?hg (N := 3) ?hd (cs := #[.int .i64 a0_0, .int .i64 a0_1, .int .u64 a0_2]) (t := 62) ?hr ?_; (case hd => rfl); (case hg => rfl); (case hr => first | (go_simp; done) | (go_simp; rfl)); intro gb101 hg w9 hbox hb; have n0_ := Aside0.mk (below_step (by repeat (first | (with_reducible first | exact HB.out | apply below_alloc | apply pw_below_drewN | apply below_drew1) | exact HB.out)) hb); have n1_ := Aside0.mk (hbox); have n2_ := Aside0.mk ((by rw [hg]; exact (below_size (by repeat (first | (with_reducible first | exact HB.out | apply below_alloc | apply pw_below_drewN | apply below_drew1) | exact HB.out))) : w.heap.size ≤ gb101)); have n3_ := Aside0.mk ((by rw [hg]; exact (below_size (by repeat (first | (with_reducible first | exact HB.out | apply below_alloc | apply pw_below_drewN | apply below_drew1) | exact HB.out))) : w.heap.size ≤ gb101)); clear HB; have HB := n0_; have BK101 := n1_; have GW101 := n2_; have GE101 := n3_; clear n0_ n1_ n2_ n3_; clear hb hbox hg; have hcz10_0 : w9.cell? ⟨gb101, 0, none⟩ = some (.int .i64 a0_0) := (blk_cell BK101.out 0).trans rfl; have hcz10_1 : w9.cell? ⟨gb101, 1, none⟩ = some (.int .i64 a0_1) := (blk_cell BK101.out 1).trans rfl; have hcz10_2 : w9.cell? ⟨gb101, 2, none⟩ = some (.int .u64 a0_2) := (blk_cell BK101.out 2).trans rfl; have hfz10_0 := blk_frozen BK101.out 0; have hfz10_1 := blk_frozen BK101.out 1; have hfz10_2 := blk_frozen BK101.out 2) | ((with_reducible refine gate_callee (f := 138) rfl ?_); refine goesL_ (some 10) rfl rfl Try.func138 (by kernel_rfl) rfl #[.int .i64 a0_0] rfl (by (try simp only [List.map_toArray, List.map_cons, List.map_nil]); first | done | rfl | (simp only [List.length_drop, List.length_take]; rfl)) ?_; (with_reducible refine (rank_third.calls a0_0 t102 _ A4.out).mono ?_); rintro e w' ⟨rfl, ⟨nd, rfl⟩⟩; refine ⟨_, rfl, ?_⟩; clear A4) | ((with_reducible refine gate_callee (f := 138) rfl ?_); refine goesL_ (some 12) rfl rfl Try.func138 (by kernel_rfl) rfl #[.int .i64 a1] rfl (by (try simp only [List.map_toArray, List.map_cons, List.map_nil]); first | done | rfl | (simp only [List.length_drop, List.length_take]; rfl)) ?_; (with_reducible refine (rank_third.calls a1 t103 _ A5.out).mono ?_); rintro e w' ⟨rfl, ⟨nd, rfl⟩⟩; refine ⟨_, rfl, ?_⟩; clear A5) | ((with_reducible refine gate_callee (f := 137) rfl ?_); refine goesL_ (some 13) rfl rfl Try.func137 (by kernel_rfl) rfl #[.int .i64 t102, .int .i64 t103] rfl (by (try simp only [List.map_toArray, List.map_cons, List.map_nil]); first | done | rfl | (simp only [List.length_drop, List.length_take]; rfl)) ?_; (with_reducible refine (cmp_Compare_int.calls t102 t103 t104 _ A6.out).mono ?_); rintro e w' ⟨rfl, ⟨nd, rfl⟩⟩; refine ⟨_, rfl, ?_⟩; clear A6))
   go_ret
   exact ⟨by first | rfl | (simp [errW_none, errW_some] <;> rfl) | (simp [*, errW_none, errW_some] <;> rfl), by repeat (first | (with_reducible first | exact HB.out | apply below_alloc | apply pw_below_drewN | apply below_drew1 | refine below_set ?_ GE101.out) | exact HB.out)⟩
  ·rw [if_neg c8] at H
   have c8b0 : (a1 == 1) = false := beq_eq_false_iff_ne.mpr c8
   have c8b1 : (a1 != 1) = true := bne_iff_ne.mpr c8
   by_cases c11 : a1 = 0
   ·rw [if_pos c11] at H
    have c11b0 : (a1 == 0) = true := beq_iff_eq.mpr c11
    have c11b1 : (a1 != 0) = false := bne_eq_false_iff_eq.mpr c11
    clear c11
    obtain rfl := Option.some.inj H
    go_enter Try.func100, Try.ntmps100
    go_wp2_with (first | ((with_reducible refine gate_dst (N := 3) rfl ?_); refine box_event ?hg (N := 3) ?hd (cs := #[.int .i64 a0_0, .int .i64 a0_1, .int .u64 a0_2]) (t := 62) ?hr ?_; (case hd => rfl); (case hg => rfl); (case hr => first | (go_simp; done) | (go_simp; rfl)); intro gb101 hg w12 hbox hb; have n0_ := Aside0.mk (below_step (by repeat (first | (with_reducible first | exact HB.out | apply below_alloc | apply pw_below_drewN | apply below_drew1) | exact HB.out)) hb); have n1_ := Aside0.mk (hbox); have n2_ := Aside0.mk ((by rw [hg]; exact (below_size (by repeat (first | (with_reducible first | exact HB.out | apply below_alloc | apply pw_below_drewN | apply below_drew1) | exact HB.out))) : w.heap.size ≤ gb101)); have n3_ := Aside0.mk ((by rw [hg]; exact (below_size (by repeat (first | (with_reducible first | exact HB.out | apply below_alloc | apply pw_below_drewN | apply below_drew1) | exact HB.out))) : w.heap.size ≤ gb101)); clear HB; have HB := n0_; have BK101 := n1_; have GW101 := n2_; have GE101 := n3_; clear n0_ n1_ n2_ n3_; clear hb hbox hg; have hcz13_0 : w12.cell? ⟨gb101, 0, none⟩ = some (.int .i64 a0_0) := (blk_cell BK101.out 0).trans rfl; have hcz13_1 : w12.cell? ⟨gb101, 1, none⟩ = some (.int .i64 a0_1) := (blk_cell BK101.out 1).trans rfl; have hcz13_2 : w12.cell? ⟨gb101, 2, none⟩ = some (.int .u64 a0_2) := (blk_cell BK101.out 2).trans rfl; have hfz13_0 := blk_frozen BK101.out 0; have hfz13_1 := blk_frozen BK101.out 1; have hfz13_2 := blk_frozen BK101.out 2) | ((with_reducible refine gate_callee (f := 138) rfl ?_); refine goesL_ (some 10) rfl rfl Try.func138 (by kernel_rfl) rfl #[.int .i64 a0_0] rfl (by (try simp only [List.map_toArray, List.map_cons, List.map_nil]); first | done | rfl | (simp only [List.length_drop, List.length_take]; rfl)) ?_; (with_reducible refine (rank_third.calls a0_0 t102 _ A4.out).mono ?_); rintro e w' ⟨rfl, ⟨nd, rfl⟩⟩; refine ⟨_, rfl, ?_⟩; clear A4) | ((with_reducible refine gate_callee (f := 138) rfl ?_); refine goesL_ (some 12) rfl rfl Try.func138 (by kernel_rfl) rfl #[.int .i64 a1] rfl (by (try simp only [List.map_toArray, List.map_cons, List.map_nil]); first | done | rfl | (simp only [List.length_drop, List.length_take]; rfl)) ?_; (with_reducible refine (rank_third.calls a1 t103 _ A5.out).mono ?_); rintro e w' ⟨rfl, ⟨nd, rfl⟩⟩; refine ⟨_, rfl, ?_⟩; clear A5) | ((with_reducible refine gate_callee (f := 137) rfl ?_); refine goesL_ (some 13) rfl rfl Try.func137 (by kernel_rfl) rfl #[.int .i64 t102, .int .i64 t103] rfl (by (try simp only [List.map_toArray, List.map_cons, List.map_nil]); first | done | rfl | (simp only [List.length_drop, List.length_take]; rfl)) ?_; (with_reducible refine (cmp_Compare_int.calls t102 t103 t104 _ A6.out).mono ?_); rintro e w' ⟨rfl, ⟨nd, rfl⟩⟩; refine ⟨_, rfl, ?_⟩; clear A6))
    go_ret
    exact ⟨by first | rfl | (simp [errW_none, errW_some] <;> rfl) | (simp [*, errW_none, errW_some] <;> rfl), by repeat (first | (with_reducible first | exact HB.out | apply below_alloc | apply pw_below_drewN | apply below_drew1 | refine below_set ?_ GE101.out) | exact HB.out)⟩
   ·rw [if_neg c11] at H
    have c11b0 : (a1 == 0) = false := beq_eq_false_iff_ne.mpr c11
    have c11b1 : (a1 != 0) = true := bne_iff_ne.mpr c11
    obtain rfl := Option.some.inj H
    go_enter Try.func100, Try.ntmps100
    go_wp2_with (first | ((with_reducible refine gate_dst (N := 3) rfl ?_); refine box_event ?hg (N := 3) ?hd (cs := #[.int .i64 a0_0, .int .i64 a0_1, .int .u64 a0_2]) (t := 62) ?hr ?_; (case hd => rfl); (case hg => rfl); (case hr => first | (go_simp; done) | (go_simp; rfl)); intro gb101 hg w14 hbox hb; have n0_ := Aside0.mk (below_step (by repeat (first | (with_reducible first | exact HB.out | apply below_alloc | apply pw_below_drewN | apply below_drew1) | exact HB.out)) hb); have n1_ := Aside0.mk (hbox); have n2_ := Aside0.mk ((by rw [hg]; exact (below_size (by repeat (first | (with_reducible first | exact HB.out | apply below_alloc | apply pw_below_drewN | apply below_drew1) | exact HB.out))) : w.heap.size ≤ gb101)); have n3_ := Aside0.mk ((by rw [hg]; exact (below_size (by repeat (first | (with_reducible first | exact HB.out | apply below_alloc | apply pw_below_drewN | apply below_drew1) | exact HB.out))) : w.heap.size ≤ gb101)); clear HB; have HB := n0_; have BK101 := n1_; have GW101 := n2_; have GE101 := n3_; clear n0_ n1_ n2_ n3_; clear hb hbox hg; have hcz15_0 : w14.cell? ⟨gb101, 0, none⟩ = some (.int .i64 a0_0) := (blk_cell BK101.out 0).trans rfl; have hcz15_1 : w14.cell? ⟨gb101, 1, none⟩ = some (.int .i64 a0_1) := (blk_cell BK101.out 1).trans rfl; have hcz15_2 : w14.cell? ⟨gb101, 2, none⟩ = some (.int .u64 a0_2) := (blk_cell BK101.out 2).trans rfl; have hfz15_0 := blk_frozen BK101.out 0; have hfz15_1 := blk_frozen BK101.out 1; have hfz15_2 := blk_frozen BK101.out 2) | ((with_reducible refine gate_callee (f := 138) rfl ?_); refine goesL_ (some 10) rfl rfl Try.func138 (by kernel_rfl) rfl #[.int .i64 a0_0] rfl (by (try simp only [List.map_toArray, List.map_cons, List.map_nil]); first | done | rfl | (simp only [List.length_drop, List.length_take]; rfl)) ?_; (with_reducible refine (rank_third.calls a0_0 t102 _ A4.out).mono ?_); rintro e w' ⟨rfl, ⟨nd, rfl⟩⟩; refine ⟨_, rfl, ?_⟩; clear A4) | ((with_reducible refine gate_callee (f := 138) rfl ?_); refine goesL_ (some 12) rfl rfl Try.func138 (by kernel_rfl) rfl #[.int .i64 a1] rfl (by (try simp only [List.map_toArray, List.map_cons, List.map_nil]); first | done | rfl | (simp only [List.length_drop, List.length_take]; rfl)) ?_; (with_reducible refine (rank_third.calls a1 t103 _ A5.out).mono ?_); rintro e w' ⟨rfl, ⟨nd, rfl⟩⟩; refine ⟨_, rfl, ?_⟩; clear A5) | ((with_reducible refine gate_callee (f := 137) rfl ?_); refine goesL_ (some 13) rfl rfl Try.func137 (by kernel_rfl) rfl #[.int .i64 t102, .int .i64 t103] rfl (by (try simp only [List.map_toArray, List.map_cons, List.map_nil]); first | done | rfl | (simp only [List.length_drop, List.length_take]; rfl)) ?_; (with_reducible refine (cmp_Compare_int.calls t102 t103 t104 _ A6.out).mono ?_); rintro e w' ⟨rfl, ⟨nd, rfl⟩⟩; refine ⟨_, rfl, ?_⟩; clear A6))
    go_ret
    exact ⟨by first | rfl | (simp [errW_none, errW_some] <;> rfl) | (simp [*, errW_none, errW_some] <;> rfl), by repeat (first | (with_reducible first | exact HB.out | apply below_alloc | apply pw_below_drewN | apply below_drew1 | refine below_set ?_ GE101.out) | exact HB.out)⟩
 ·rw [if_neg c7] at H
  have c7b0 : (t104 == 0) = false := beq_eq_false_iff_ne.mpr c7
  have c7b1 : (t104 != 0) = true := bne_iff_ne.mpr c7
  obtain rfl := Option.some.inj H
  go_enter Try.func100, Try.ntmps100
  go_wp2_with (first | ((with_reducible refine gate_dst (N := 3) rfl ?_); refine box_event ?hg (N := 3) ?hd (cs := #[.int .i64 a0_0, .int .i64 a0_1, .int .u64 a0_2]) (t := 62) ?hr ?_; (case hd => rfl); (case hg => rfl); (case hr => first | (go_simp; done) | (go_simp; rfl)); intro gb101 hg w16 hbox hb; have n0_ := Aside0.mk (below_step (by repeat (first | (with_reducible first | exact HB.out | apply below_alloc | apply pw_below_drewN | apply below_drew1) | exact HB.out)) hb); have n1_ := Aside0.mk (hbox); have n2_ := Aside0.mk ((by rw [hg]; exact (below_size (by repeat (first | (with_reducible first | exact HB.out | apply below_alloc | apply pw_below_drewN | apply below_drew1) | exact HB.out))) : w.heap.size ≤ gb101)); have n3_ := Aside0.mk ((by rw [hg]; exact (below_size (by repeat (first | (with_reducible first | exact HB.out | apply below_alloc | apply pw_below_drewN | apply below_drew1) | exact HB.out))) : w.heap.size ≤ gb101)); clear HB; have HB := n0_; have BK101 := n1_; have GW101 := n2_; have GE101 := n3_; clear n0_ n1_ n2_ n3_; clear hb hbox hg; have hcz17_0 : w16.cell? ⟨gb101, 0, none⟩ = some (.int .i64 a0_0) := (blk_cell BK101.out 0).trans rfl; have hcz17_1 : w16.cell? ⟨gb101, 1, none⟩ = some (.int .i64 a0_1) := (blk_cell BK101.out 1).trans rfl; have hcz17_2 : w16.cell? ⟨gb101, 2, none⟩ = some (.int .u64 a0_2) := (blk_cell BK101.out 2).trans rfl; have hfz17_0 := blk_frozen BK101.out 0; have hfz17_1 := blk_frozen BK101.out 1; have hfz17_2 := blk_frozen BK101.out 2) | ((with_reducible refine gate_callee (f := 138) rfl ?_); refine goesL_ (some 10) rfl rfl Try.func138 (by kernel_rfl) rfl #[.int .i64 a0_0] rfl (by (try simp only [List.map_toArray, List.map_cons, List.map_nil]); first | done | rfl | (simp only [List.length_drop, List.length_take]; rfl)) ?_; (with_reducible refine (rank_third.calls a0_0 t102 _ A4.out).mono ?_); rintro e w' ⟨rfl, ⟨nd, rfl⟩⟩; refine ⟨_, rfl, ?_⟩; clear A4) | ((with_reducible refine gate_callee (f := 138) rfl ?_); refine goesL_ (some 12) rfl rfl Try.func138 (by kernel_rfl) rfl #[.int .i64 a1] rfl (by (try simp only [List.map_toArray, List.map_cons, List.map_nil]); first | done | rfl | (simp only [List.length_drop, List.length_take]; rfl)) ?_; (with_reducible refine (rank_third.calls a1 t103 _ A5.out).mono ?_); rintro e w' ⟨rfl, ⟨nd, rfl⟩⟩; refine ⟨_, rfl, ?_⟩; clear A5) | ((with_reducible refine gate_callee (f := 137) rfl ?_); refine goesL_ (some 13) rfl rfl Try.func137 (by kernel_rfl) rfl #[.int .i64 t102, .int .i64 t103] rfl (by (try simp only [List.map_toArray, List.map_cons, List.map_nil]); first | done | rfl | (simp only [List.length_drop, List.length_take]; rfl)) ?_; (with_reducible refine (cmp_Compare_int.calls t102 t103 t104 _ A6.out).mono ?_); rintro e w' ⟨rfl, ⟨nd, rfl⟩⟩; refine ⟨_, rfl, ?_⟩; clear A6))
  go_ret
  exact ⟨by first | rfl | (simp [errW_none, errW_some] <;> rfl) | (simp [*, errW_none, errW_some] <;> rfl), by repeat (first | (with_reducible first | exact HB.out | apply below_alloc | apply pw_below_drewN | apply below_drew1 | refine below_set ?_ GE101.out) | exact HB.out)⟩
end Go.Proofs.Ytcabapilejagkaa.P
