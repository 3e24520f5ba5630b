/- PairsMerge: the part that this text bears of the proof that the statement answers true for every input. No condition. -/
import Derived.Test.YtcabapilejagkaaProg
import Derived.Below
import Derived.Deep.Draws
import Derived.Deep.AppendLies
import Derived.Maps.AppendAt
import Derived.OwnWalk
import Derived.Laws.BytesArg
import Derived.Laws.MakeOwn
import Derived.Laws.OwnMore
import Derived.Deep.OwnRows
import Derived.Tactics
import Derived.Lib.ConvBytes
import Derived.Laws.Slices
import Derived.WalkKit
import Derived.KernelRfl
import Derived.RowKit3
import Derived.Deep.LoopGhost
import Derived.Deep.QuietTactic
import Derived.BigQuiet
import Derived.WideLaws
import Derived.Deep.DeepCutAuto
import Derived.Deep.CutBlock
import Derived.Deep.RegionHeld3
import Derived.Laws.Rows
import Derived.Lib.AppendStr
import Derived.ArgAppend
import Derived.Laws.IdiomCopy
import Derived.OrdersHeld
import Derived.Laws.BitsLemmas
import Derived.RowKit
import Derived.Shelf.Abstract
import Derived.WalkSpells
import Derived.RangeFuncNested
import Derived.RangeFuncBound
import Derived.RangeFuncCalls
import Derived.RangeFuncLeaves
import Derived.RangeFuncBox
import Derived.OwnWalkIn
import Derived.TacticsInMore
import Derived.LoopNIn
import Derived.LoopIn
import Derived.Deep.Slices
import Derived.ChangeArms
import Derived.ProofKit
import Derived.JoinedOf
import Derived.OpenShut
import Derived.ShutString
import Derived.ChangeOld
import Derived.SizedLaws
import Derived.Test.YtcabapilejagkaaQPairsMergeWWords
import Derived.Test.YtcabapilejagkaaQPairsMergeWLast
import Derived.Test.YtcabapilejagkaaQPairsMergeWTab
import Derived.Test.YtcabapilejagkaaQPairsMergeWFour
import Derived.Test.YtcabapilejagkaaQPairsMergeWQPut
import Derived.Test.YtcabapilejagkaaQPairsMergeWApart
import Derived.Test.YtcabapilejagkaaQPairsMergeWArr
import Derived.Test.YtcabapilejagkaaQPairsMergeWZeros
import Derived.Test.YtcabapilejagkaaQPairsMergeWFoot
import Derived.Test.YtcabapilejagkaaQPairsMergeWKept
import Derived.Test.YtcabapilejagkaaQPairsMergeWShare
import Derived.Test.YtcabapilejagkaaQPairsMergeWN
import Derived.Test.YtcabapilejagkaaQPairsMergeWFootNe
import Derived.Test.YtcabapilejagkaaQPairsMergeWAt
import Derived.Test.YtcabapilejagkaaQPairsMergeWEqStruct
import Derived.Test.YtcabapilejagkaaQPairsMergeWRepsOne
import Derived.Test.YtcabapilejagkaaQPairsMergeWInv
import Derived.Test.YtcabapilejagkaaQPairsMergeWInvWords
import Derived.Test.YtcabapilejagkaaQPairsMergeWGuard
import Derived.Test.YtcabapilejagkaaQPairsMergeWNEv
import Derived.Test.YtcabapilejagkaaQPairsMergeWMore
import Derived.Test.YtcabapilejagkaaRows
import Derived.Test.YtcabapilejagkaaQPairsMerge0
import Derived.Test.YtcabapilejagkaaQPairsMerge1
namespace Go.Proofs.Ytcabapilejagkaa.P
open Go.RowKit Go.Proofs.YtcabapilejagkaaW.PrintWords Go.Proofs.YtcabapilejagkaaW.PrintLast Go.Proofs.YtcabapilejagkaaW.PrintMore
attribute [local go_sem] max2_int min2_int max_two min_two max_three min_three max_four min_four
set_option linter.unusedVariables false
set_option linter.unusedSimpArgs false
mutual
def tidepolelaw07_PairsMerge.j0 : Nat → List (S30) → List (S30) → Bool → Option (Bool)
 | 0, _, _, _ => none
 | k + 1, x0, x1, x31 => if x31 = true then ((tidepolelaw07_awake.f).bind fun t109 => (some t109)) else ((pairs_Merge_int64.f k x0 x1).bind fun t110 => ((tidepolelaw07_plain.f k t110).bind fun t113 => ((tidepoleref07_Rising.f k t113).bind fun t116 => (if t116 = true then (tidepolelaw07_PairsMerge.l0 k x0 x1 t110 0 t110 (t110.length : Int) 0) else (some false)))))
def tidepolelaw07_PairsMerge.l0 : Nat → List (S30) → List (S30) → List (S30) → Int → List (S30) → Int → Int → Option (Bool)
 | 0, _, _, _, _, _, _, _ => none
 | k + 1, x0, x1, x5, x6, x40, x41, x42 => if x42 < x41 then (if 0 ≤ x42 then (if x42 < (x40.length : Int) then ((tidepolelaw07_plain.f k x0).bind fun t120 => ((tidepoleref07_Find.f k t120 ((rd_T30 x40 x42).f0)).bind fun t123 => ((tidepolelaw07_plain.f k x1).bind fun t124 => ((tidepoleref07_Find.f k t124 ((rd_T30 x40 x42).f0)).bind fun t127 => (if t123 ≥ 0 then (tidepolelaw07_PairsMerge.j2 k x0 x1 x5 x6 t123 t127 x40 x41 x42 (decide (t127 ≥ 0)) ((rd_T30 x40 x42).f0) ((rd_T30 x40 x42).f1)) else (tidepolelaw07_PairsMerge.j2 k x0 x1 x5 x6 t123 t127 x40 x41 x42 false ((rd_T30 x40 x42).f0) ((rd_T30 x40 x42).f1))))))) else (none)) else (none)) else (if (wrap64 ((x5.length : Int) + x6)) = (wrap64 ((x0.length : Int) + (x1.length : Int))) then ((tidepolelaw07_awake.f).bind fun t117 => (some t117)) else (some false))
def tidepolelaw07_PairsMerge.j2 : Nat → List (S30) → List (S30) → List (S30) → Int → Int → Int → List (S30) → Int → Int → Bool → Int → Int → Option (Bool)
 | 0, _, _, _, _, _, _, _, _, _, _, _, _ => none
 | k + 1, x0, x1, x5, x6, x9, x10, x40, x41, x42, x56, x120000, x120001 => if x56 = true then (if 0 ≤ x9 then (if x9 < (x0.length : Int) then (if 0 ≤ x10 then (if x10 < (x1.length : Int) then (if x120001 = (wrap64 ((wrap64 (3 * ((rd_T30 x0 x9).f1))) + ((rd_T30 x1 x10).f1))) then (tidepolelaw07_PairsMerge.l0 k x0 x1 x5 (wrap64 (x6 + 1)) x40 x41 (wrap64 (x42 + 1))) else (some false)) else (none)) else (none)) else (none)) else (none)) else (if x9 ≥ 0 then (if 0 ≤ x9 then (if x9 < (x0.length : Int) then (if x120001 = ((rd_T30 x0 x9).f1) then (tidepolelaw07_PairsMerge.l0 k x0 x1 x5 x6 x40 x41 (wrap64 (x42 + 1))) else (some false)) else (none)) else (none)) else (if x10 ≥ 0 then (if 0 ≤ x10 then (if x10 < (x1.length : Int) then (if x120001 = ((rd_T30 x1 x10).f1) then (tidepolelaw07_PairsMerge.l0 k x0 x1 x5 x6 x40 x41 (wrap64 (x42 + 1))) else (some false)) else (none)) else (none)) else (some false)))
end
def tidepolelaw07_PairsMerge.f (k : Nat) (l0 : List (S30)) (l1 : List (S30)) : Option (Bool) := if (l0.length : Int) > 200 then (tidepolelaw07_PairsMerge.j0 k l0 l1 true) else (if (l1.length : Int) > 200 then (tidepolelaw07_PairsMerge.j0 k l0 l1 true) else ((tidepolelaw07_plain.f k l0).bind fun t101 => ((tidepoleref07_Rising.f k t101).bind fun t104 => (if t104 = true then ((tidepolelaw07_plain.f k l1).bind fun t105 => ((tidepoleref07_Rising.f k t105).bind fun t108 => (tidepolelaw07_PairsMerge.j0 k l0 l1 (!t108)))) else (tidepolelaw07_PairsMerge.j0 k l0 l1 true)))))
def tidepolelaw07_PairsMerge.T10 : Bool × List (List Nat × List Nat) := (true, [([], []), ([0], [0]), ([], []), ([2], [2]), ([1, 3, 1], [1, 3]), ([], []), ([5, 4], [5]), ([], []), ([7], [7]), ([6, 8, 6], [6, 8]), ([4, 9, 0, 1, 2, 3, 4], [4]), ([9, 10, 0, 1, 2, 3, 4, 5, 6, 7, 8, 9, 10], [9])])
def tidepolelaw07_PairsMerge.B10 : List Nat := [0, 1, 0, 4, 15, 0, 63, 0, 128, 511, 1023, 2047]
theorem tidepolelaw07_PairsMerge.tab10 : rtab .any (opsOf Try.f3 10) = tidepolelaw07_PairsMerge.T10 := by kernel_rfl
theorem tidepolelaw07_PairsMerge.bits10 : waitsOk tidepolelaw07_PairsMerge.T10.2 tidepolelaw07_PairsMerge.B10 = true := by kernel_rfl
def tidepolelaw07_PairsMerge.T14 : Bool × List (List Nat × List Nat) := (true, [([], []), ([], []), ([0, 1], [0, 1]), ([2], [2]), ([3], [3]), ([4], [4]), ([], []), ([], []), ([6, 7], [6, 7]), ([8], [8]), ([9], [9]), ([5, 10], [5, 10]), ([11, 0, 1, 2, 3, 4, 5, 6, 7, 8, 9, 10, 11], [11])])
def tidepolelaw07_PairsMerge.B14 : List Nat := [0, 0, 3, 7, 15, 31, 0, 0, 192, 448, 960, 2047, 4095]
theorem tidepolelaw07_PairsMerge.tab14 : rtab .any (opsOf Try.f3 14) = tidepolelaw07_PairsMerge.T14 := by kernel_rfl
theorem tidepolelaw07_PairsMerge.bits14 : waitsOk tidepolelaw07_PairsMerge.T14.2 tidepolelaw07_PairsMerge.B14 = true := by kernel_rfl
set_option maxHeartbeats 8000000 in
set_option maxRecDepth 100000 in
theorem tidepolelaw07_PairsMerge.calls (k : Nat) (A0 : Option Addr) (c0 : Nat) (l0 : List (S30)) (A1 : Option Addr) (c1 : Nat) (l1 : List (S30)) (r : Bool) (w : World) (hr0 : Kd.C k30 w A0 l0.length l0) (hc0 : l0.length ≤ c0) (hr1 : Kd.C k30 w A1 l1.length l1) (hc1 : l1.length ≤ c1) (h : tidepolelaw07_PairsMerge.f k l0 l1 = some r) :
  Calls Try.prog 3 #[.slice A0 l0.length c0, .slice A1 l1.length c1] w fun e w' => e = .returned (.bool r) ∧ Below w.heap.size w w' := by
 have hu30 := Try.underlying30
 have HR0 := Aside0.mk hr0
 have HC0 := Aside0.mk hc0
 clear hr0 hc0
 have HR1 := Aside0.mk hr1
 have HC1 := Aside0.mk hc1
 clear hr1 hc1
 have HB := Aside0.mk (Below.refl w.heap.size w)
 have H : (if (l0.length : Int) > 200 then (tidepolelaw07_PairsMerge.j0 k l0 l1 true) else (if (l1.length : Int) > 200 then (tidepolelaw07_PairsMerge.j0 k l0 l1 true) else ((tidepolelaw07_plain.f k l0).bind fun t101 => ((tidepoleref07_Rising.f k t101).bind fun t104 => (if t104 = true then ((tidepolelaw07_plain.f k l1).bind fun t105 => ((tidepoleref07_Rising.f k t105).bind fun t108 => (tidepolelaw07_PairsMerge.j0 k l0 l1 (!t108)))) else (tidepolelaw07_PairsMerge.j0 k l0 l1 true)))))) = some r := h
 clear h
 have HC3 := Aside0.mk H
 clear H
 go_enter Try.func3, Try.ntmps3
 go_upto_region 1 with (fail)
 go_cut [31] (fun v31 wc => ∃ (kq : Nat) (x31_2 : Bool), v31 = .bool x31_2 ∧ Aside0 (tidepolelaw07_PairsMerge.j0 kq l0 l1 x31_2 = some r) ∧ Aside0 (kq ≤ k) ∧ Aside0 (Below w.heap.size w wc))
 case first =>
  have H := HC3.out
  clear HC3
  by_cases c4 : (l0.length : Int) > 200
  ·rw [if_pos c4] at H
   have c4b0 : decide (200 < (l0.length : Int)) = true := decide_eq_true c4
   have c4b1 : decide (200 < l0.length) = true := decide_eq_true (by omega)
   clear c4
   (first | rw [c4b0] | (simp only [i64_w, i32_w]; rw [c4b0]) | skip)
   have H' := Aside0.mk H
   clear H
   go_wp2
   go_meet
   case rel => exact ⟨_, (true), (by first | rfl | (simp; done) | (simp [*]; done)), H', ⟨by first | omega | exact Nat.le_refl _⟩, ⟨by repeat (first | (with_reducible first | exact HB.out | apply below_alloc | apply pw_below_drewN | apply below_drew1) | exact HB.out)⟩⟩
  ·rw [if_neg c4] at H
   have c4b0 : decide (200 < (l0.length : Int)) = false := decide_eq_false c4
   have c4b1 : decide (200 < l0.length) = false := decide_eq_false (by omega)
   clear c4
   (first | rw [c4b0] | (simp only [i64_w, i32_w]; rw [c4b0]) | skip)
   by_cases c5 : (l1.length : Int) > 200
   ·rw [if_pos c5] at H
    have c5b0 : decide (200 < (l1.length : Int)) = true := decide_eq_true c5
    have c5b1 : decide (200 < l1.length) = true := decide_eq_true (by omega)
    clear c5
    have H' := Aside0.mk H
    clear H
    go_wp2
    go_meet
    case rel => exact ⟨_, (true), (by first | rfl | (simp; done) | (simp [*]; done)), H', ⟨by first | omega | exact Nat.le_refl _⟩, ⟨by repeat (first | (with_reducible first | exact HB.out | apply below_alloc | apply pw_below_drewN | apply below_drew1) | exact HB.out)⟩⟩
   ·rw [if_neg c5] at H
    have c5b0 : decide (200 < (l1.length : Int)) = false := decide_eq_false c5
    have c5b1 : decide (200 < l1.length) = false := decide_eq_false (by omega)
    clear c5
    replace H := Option.bind_eq_some_iff.mp H
    obtain ⟨t101, A60, H⟩ := H
    replace H : ((tidepoleref07_Rising.f k t101).bind fun t104 => (if t104 = true then ((tidepolelaw07_plain.f k l1).bind fun t105 => ((tidepoleref07_Rising.f k t105).bind fun t108 => (tidepolelaw07_PairsMerge.j0 k l0 l1 (!t108)))) else (tidepolelaw07_PairsMerge.j0 k l0 l1 true))) = some r := H
    have A6 := Aside0.mk A60
    clear A60
    replace H := Option.bind_eq_some_iff.mp H
    obtain ⟨t104, A70, H⟩ := H
    replace H : (if t104 = true then ((tidepolelaw07_plain.f k l1).bind fun t105 => ((tidepoleref07_Rising.f k t105).bind fun t108 => (tidepolelaw07_PairsMerge.j0 k l0 l1 (!t108)))) else (tidepolelaw07_PairsMerge.j0 k l0 l1 true)) = some r := H
    have A7 := Aside0.mk A70
    clear A70
    by_cases c8 : t104 = true
    ·subst c8
     have H1 : ((tidepolelaw07_plain.f k l1).bind fun t105 => ((tidepoleref07_Rising.f k t105).bind fun t108 => (tidepolelaw07_PairsMerge.j0 k l0 l1 (!t108)))) = some r := by rw [if_pos rfl] at H; exact H
     clear H
     have H := H1
     clear H1
     replace H := Option.bind_eq_some_iff.mp H
     obtain ⟨t105, A90, H⟩ := H
     replace H : ((tidepoleref07_Rising.f k t105).bind fun t108 => (tidepolelaw07_PairsMerge.j0 k l0 l1 (!t108))) = some r := H
     have A9 := Aside0.mk A90
     clear A90
     replace H := Option.bind_eq_some_iff.mp H
     obtain ⟨t108, A100, H⟩ := H
     replace H : (tidepolelaw07_PairsMerge.j0 k l0 l1 (!t108)) = some r := H
     have A10 := Aside0.mk A100
     clear A100
     have H' := Aside0.mk H
     clear H
     go_wp2_with (first | (go_at_call 16; (with_reducible refine (tidepolelaw07_plain.calls k _ _ l0 t101 _ ?side1 ?side2 A6.out).mono ?_); (case side1 => repeat (first | exact (Kd.C_below HR0.out HB.out) | (with_reducible refine Kd.C_alloc ?_ _) | (with_reducible refine Kd.C_drewN ?_ _) | (with_reducible refine Kd.C_drew ?_))); (case side2 => exact HC0.out); rintro e w11 ⟨v102, rfl, ho0, hb⟩; have n0_ := Aside0.mk (Kd.R_lower ho0 (below_size (by repeat (first | (with_reducible first | exact HB.out | apply below_alloc | apply pw_below_drewN | apply below_drew1) | exact HB.out)))); have n1_ := Aside0.mk (below_step (by repeat (first | (with_reducible first | exact HB.out | apply below_alloc | apply pw_below_drewN | apply below_drew1) | exact HB.out)) hb); clear HB; have HO103 := n0_; have HB := n1_; clear n0_ n1_; (try clear hb); (try clear hb2); (try clear hk); (try clear hi); (try clear ho0); clear A6; obtain ⟨Ao12, co12, eo12⟩ := Kd.R_slice HO103.out; subst eo12) | (go_at_call 15; (with_reducible refine (tidepoleref07_Rising.calls k _ _ t101 true _ ?side1 ?side2 A7.out).mono ?_); (case side1 => repeat (first | exact (Kd.R_reads' HO103.out).2.2 | (with_reducible refine Kd.C_alloc ?_ _) | (with_reducible refine Kd.C_drewN ?_ _) | (with_reducible refine Kd.C_drew ?_))); (case side2 => exact (Kd.R_reads' HO103.out).2.1); rintro e w' ⟨rfl, ⟨nd, rfl⟩⟩; clear A7) | (go_at_call 16; (with_reducible refine (tidepolelaw07_plain.calls k _ _ l1 t105 _ ?side1 ?side2 A9.out).mono ?_); (case side1 => repeat (first | exact (Kd.C_below HR1.out (by repeat (first | (with_reducible first | exact HB.out | apply below_alloc | apply pw_below_drewN | apply below_drew1) | exact HB.out))) | (with_reducible refine Kd.C_alloc ?_ _) | (with_reducible refine Kd.C_drewN ?_ _) | (with_reducible refine Kd.C_drew ?_))); (case side2 => exact HC1.out); rintro e w13 ⟨v106, rfl, ho0, hb⟩; have n0_ := Aside0.mk (Kd.R_elder' (by (with_reducible repeat (first | apply Kd.R_alloc | apply Kd.R_drewN | apply Kd.R_drew)); exact HO103.out) (Kd.R_base ho0) hb); have n1_ := Aside0.mk (Kd.R_lower (Kd.R_new' ho0 (Kd.R_lt (by (with_reducible repeat (first | apply Kd.R_alloc | apply Kd.R_drewN | apply Kd.R_drew)); exact HO103.out))) (below_size (by repeat (first | (with_reducible first | exact HB.out | apply below_alloc | apply pw_below_drewN | apply below_drew1) | exact HB.out)))); have n2_ := Aside0.mk (below_step (by repeat (first | (with_reducible first | exact HB.out | apply below_alloc | apply pw_below_drewN | apply below_drew1) | exact HB.out)) hb); clear HO103; clear HB; have HO103 := n0_; have HO107 := n1_; have HB := n2_; clear n0_ n1_ n2_; (try clear hb); (try clear hb2); (try clear hk); (try clear hi); (try clear ho0); clear A9; obtain ⟨Ao14, co14, eo14⟩ := Kd.R_slice HO107.out; subst eo14) | (go_at_call 15; (with_reducible refine (tidepoleref07_Rising.calls k _ _ t105 t108 _ ?side1 ?side2 A10.out).mono ?_); (case side1 => repeat (first | exact (Kd.R_reads' HO107.out).2.2 | (with_reducible refine Kd.C_alloc ?_ _) | (with_reducible refine Kd.C_drewN ?_ _) | (with_reducible refine Kd.C_drew ?_))); (case side2 => exact (Kd.R_reads' HO107.out).2.1); rintro e w' ⟨rfl, ⟨nd, rfl⟩⟩; clear A10))
     go_meet
     case rel => exact ⟨_, (!t108), (by first | rfl | (simp; done) | (simp [*]; done)), H', ⟨by first | omega | exact Nat.le_refl _⟩, ⟨by repeat (first | (with_reducible first | exact HB.out | apply below_alloc | apply pw_below_drewN | apply below_drew1) | exact HB.out)⟩⟩
    ·replace c8 := Bool.eq_false_iff.mpr c8
     subst c8
     have H1 : (tidepolelaw07_PairsMerge.j0 k l0 l1 true) = some r := by rw [if_neg (show ¬ (false = true) by decide)] at H; exact H
     clear H
     have H := H1
     clear H1
     have H' := Aside0.mk H
     clear H
     go_wp2_with (first | (go_at_call 16; (with_reducible refine (tidepolelaw07_plain.calls k _ _ l0 t101 _ ?side1 ?side2 A6.out).mono ?_); (case side1 => repeat (first | exact (Kd.C_below HR0.out HB.out) | (with_reducible refine Kd.C_alloc ?_ _) | (with_reducible refine Kd.C_drewN ?_ _) | (with_reducible refine Kd.C_drew ?_))); (case side2 => exact HC0.out); rintro e w15 ⟨v102, rfl, ho0, hb⟩; have n0_ := Aside0.mk (Kd.R_lower ho0 (below_size (by repeat (first | (with_reducible first | exact HB.out | apply below_alloc | apply pw_below_drewN | apply below_drew1) | exact HB.out)))); have n1_ := Aside0.mk (below_step (by repeat (first | (with_reducible first | exact HB.out | apply below_alloc | apply pw_below_drewN | apply below_drew1) | exact HB.out)) hb); clear HB; have HO103 := n0_; have HB := n1_; clear n0_ n1_; (try clear hb); (try clear hb2); (try clear hk); (try clear hi); (try clear ho0); clear A6; obtain ⟨Ao16, co16, eo16⟩ := Kd.R_slice HO103.out; subst eo16) | (go_at_call 15; (with_reducible refine (tidepoleref07_Rising.calls k _ _ t101 false _ ?side1 ?side2 A7.out).mono ?_); (case side1 => repeat (first | exact (Kd.R_reads' HO103.out).2.2 | (with_reducible refine Kd.C_alloc ?_ _) | (with_reducible refine Kd.C_drewN ?_ _) | (with_reducible refine Kd.C_drew ?_))); (case side2 => exact (Kd.R_reads' HO103.out).2.1); rintro e w' ⟨rfl, ⟨nd, rfl⟩⟩; clear A7))
     go_meet
     case rel => exact ⟨_, (true), (by first | rfl | (simp; done) | (simp [*]; done)), H', ⟨by first | omega | exact Nat.le_refl _⟩, ⟨by repeat (first | (with_reducible first | exact HB.out | apply below_alloc | apply pw_below_drewN | apply below_drew1) | exact HB.out)⟩⟩
 case rest =>
  clear HC3
  try clear c1
  try clear p2
  try clear c3
  try clear c4
  try clear c4b0
  try clear c4b1
  try clear c5
  try clear c5b0
  try clear c5b1
  try clear c8
  obtain ⟨kq, x31_2, rfl, HA, HJ2, HB⟩ := hcut
  cases kq with
  | zero => exact absurd HA.out (by simp [tidepolelaw07_PairsMerge.j0])
  | succ kj2 =>
   have H := HA.out
   clear HA
   simp only [tidepolelaw07_PairsMerge.j0] at H
   by_cases c17 : x31_2 = true
   ·subst c17
    have H1 : ((tidepolelaw07_awake.f).bind fun t109 => (some t109)) = some r := by rw [if_pos rfl] at H; exact H
    clear H
    have H := H1
    clear H1
    replace H := Option.bind_eq_some_iff.mp H
    obtain ⟨t109, A180, H⟩ := H
    replace H : (some t109) = some r := H
    have A18 := Aside0.mk A180
    clear A180
    obtain rfl := Option.some.inj H
    go_wp2_with (first | ((with_reducible refine gate_callee (f := 17) rfl ?_); refine goesL_ (some 32) rfl rfl Try.func17 (by kernel_rfl) rfl #[] rfl (by (try simp only [List.map_toArray, List.map_cons, List.map_nil]); first | done | rfl | (simp only [List.length_drop, List.length_take]; rfl)) ?_; (with_reducible refine (tidepolelaw07_awake.calls  t109 _ A18.out).mono ?_); rintro e w19 ⟨rfl, hb⟩; refine ⟨_, rfl, ?_⟩; have n0_ := Aside0.mk (below_step (by repeat (first | (with_reducible first | exact HB.out | apply below_alloc | apply pw_below_drewN | apply below_drew1) | exact HB.out)) hb); clear HB; have HB := n0_; clear n0_; (try clear hb); (try clear hb2); (try clear hk); (try clear hi); clear A18))
    go_ret
    exact ⟨by first | rfl | (simp [errW_none, errW_some] <;> rfl) | (simp [*, errW_none, errW_some] <;> rfl), by repeat (first | (with_reducible first | exact HB.out | apply below_alloc | apply pw_below_drewN | apply below_drew1) | exact HB.out)⟩
   ·replace c17 := Bool.eq_false_iff.mpr c17
    subst c17
    have H1 : ((pairs_Merge_int64.f kj2 l0 l1).bind fun t110 => ((tidepolelaw07_plain.f kj2 t110).bind fun t113 => ((tidepoleref07_Rising.f kj2 t113).bind fun t116 => (if t116 = true then (tidepolelaw07_PairsMerge.l0 kj2 l0 l1 t110 0 t110 (t110.length : Int) 0) else (some false))))) = some r := by rw [if_neg (show ¬ (false = true) by decide)] at H; exact H
    clear H
    have H := H1
    clear H1
    replace H := Option.bind_eq_some_iff.mp H
    obtain ⟨t110, A200, H⟩ := H
    replace H : ((tidepolelaw07_plain.f kj2 t110).bind fun t113 => ((tidepoleref07_Rising.f kj2 t113).bind fun t116 => (if t116 = true then (tidepolelaw07_PairsMerge.l0 kj2 l0 l1 t110 0 t110 (t110.length : Int) 0) else (some false)))) = some r := H
    have A20 := Aside0.mk A200
    clear A200
    replace H := Option.bind_eq_some_iff.mp H
    obtain ⟨t113, A210, H⟩ := H
    replace H : ((tidepoleref07_Rising.f kj2 t113).bind fun t116 => (if t116 = true then (tidepolelaw07_PairsMerge.l0 kj2 l0 l1 t110 0 t110 (t110.length : Int) 0) else (some false))) = some r := H
    have A21 := Aside0.mk A210
    clear A210
    replace H := Option.bind_eq_some_iff.mp H
    obtain ⟨t116, A220, H⟩ := H
    replace H : (if t116 = true then (tidepolelaw07_PairsMerge.l0 kj2 l0 l1 t110 0 t110 (t110.length : Int) 0) else (some false)) = some r := H
    have A22 := Aside0.mk A220
    clear A220
    by_cases c23 : t116 = true
    ·subst c23
     have H1 : (tidepolelaw07_PairsMerge.l0 kj2 l0 l1 t110 0 t110 (t110.length : Int) 0) = some r := by rw [if_pos rfl] at H; exact H
     clear H
     have H := H1
     clear H1
     have H' := Aside0.mk H
     clear H
     go_wp2_with (first | ((with_reducible refine gate_callee (f := 18) rfl ?_); refine goesL_ (some 35) rfl rfl Try.func18 (by kernel_rfl) rfl #[.slice A0 l0.length c0, .slice A1 l1.length c1, .func (.func 19) #[] #[]] rfl (by (try simp only [List.map_toArray, List.map_cons, List.map_nil]); first | done | rfl | (simp only [List.length_drop, List.length_take]; rfl)) ?_; (with_reducible refine (pairs_Merge_int64.calls kj2 (fun k_ => k_ < w.heap.size) _ _ l0 (fun k_ => k_ < w.heap.size) _ _ l1 t110 _ ?side1 ?side2 A20.out).mono ?_); (case side1 => exact Kd.V_mk HC0.out (Kd.F_below (Kd.C_F k30_heap HR0.out) (by repeat (first | (with_reducible first | exact HB.out | apply below_alloc | apply pw_below_drewN | apply below_drew1) | exact HB.out)))); (case side2 => exact Kd.V_mk HC1.out (Kd.F_below (Kd.C_F k30_heap HR1.out) (by repeat (first | (with_reducible first | exact HB.out | apply below_alloc | apply pw_below_drewN | apply below_drew1) | exact HB.out)))); rintro e w24 ⟨v111, rfl, ho0, hb⟩; refine ⟨_, rfl, ?_⟩; have n0_ := Aside0.mk (Kd.R_lower (Kd.R_mono (ok' := fun k_ => True) ho0 (fun _ hk_ => trivial)) (below_size (by repeat (first | (with_reducible first | exact HB.out | apply below_alloc | apply pw_below_drewN | apply below_drew1) | exact HB.out)))); have n1_ := Aside0.mk (below_step (by repeat (first | (with_reducible first | exact HB.out | apply below_alloc | apply pw_below_drewN | apply below_drew1) | exact HB.out)) hb); clear HB; have HO112 := n0_; have HB := n1_; clear n0_ n1_; (try clear hb); (try clear hb2); (try clear hk); (try clear hi); (try clear ho0); clear A20; obtain ⟨Ao25, co25, eo25⟩ := Kd.R_slice HO112.out; subst eo25) | ((with_reducible refine gate_callee (f := 16) rfl ?_); refine goesL_ (some 37) rfl rfl Try.func16 (by kernel_rfl) rfl #[.slice Ao25 t110.length co25] rfl (by (try simp only [List.map_toArray, List.map_cons, List.map_nil]); first | done | rfl | (simp only [List.length_drop, List.length_take]; rfl)) ?_; (with_reducible refine (tidepolelaw07_plain.calls kj2 _ _ t110 t113 _ ?side1 ?side2 A21.out).mono ?_); (case side1 => repeat (first | exact (Kd.R_reads' HO112.out).2.2 | (with_reducible refine Kd.C_alloc ?_ _) | (with_reducible refine Kd.C_drewN ?_ _) | (with_reducible refine Kd.C_drew ?_))); (case side2 => exact (Kd.R_reads' HO112.out).2.1); rintro e w26 ⟨v114, rfl, ho0, hb⟩; refine ⟨_, rfl, ?_⟩; have n0_ := Aside0.mk (Kd.R_below (by (with_reducible repeat (first | apply Kd.R_alloc | apply Kd.R_drewN | apply Kd.R_drew)); exact HO112.out) hb); have n1_ := Aside0.mk (Kd.R_lower ho0 (below_size (by repeat (first | (with_reducible first | exact HB.out | apply below_alloc | apply pw_below_drewN | apply below_drew1) | exact HB.out)))); have n2_ := Aside0.mk (below_step (by repeat (first | (with_reducible first | exact HB.out | apply below_alloc | apply pw_below_drewN | apply below_drew1) | exact HB.out)) hb); clear HO112; clear HB; have HO112 := n0_; have HO115 := n1_; have HB := n2_; clear n0_ n1_ n2_; (try clear hb); (try clear hb2); (try clear hk); (try clear hi); (try clear ho0); clear A21; obtain ⟨Ao27, co27, eo27⟩ := Kd.R_slice HO115.out; subst eo27) | ((with_reducible refine gate_callee (f := 15) rfl ?_); refine goesL_ (some 38) rfl rfl Try.func15 (by kernel_rfl) rfl #[.slice Ao27 t113.length co27] rfl (by (try simp only [List.map_toArray, List.map_cons, List.map_nil]); first | done | rfl | (simp only [List.length_drop, List.length_take]; rfl)) ?_; (with_reducible refine (tidepoleref07_Rising.calls kj2 _ _ t113 true _ ?side1 ?side2 A22.out).mono ?_); (case side1 => repeat (first | exact (Kd.R_reads' HO115.out).2.2 | (with_reducible refine Kd.C_alloc ?_ _) | (with_reducible refine Kd.C_drewN ?_ _) | (with_reducible refine Kd.C_drew ?_))); (case side2 => exact (Kd.R_reads' HO115.out).2.1); rintro e w' ⟨rfl, ⟨nd, rfl⟩⟩; refine ⟨_, rfl, ?_⟩; clear A22))
     go_loopg [6, 42] kj2 (fun kq v6 v42 w' => ∃ (x6_2 : Int) (x42_2 : Int), v6 = .int .i64 x6_2 ∧ v42 = .int .i64 x42_2 ∧ Aside0 (tidepolelaw07_PairsMerge.l0 kq l0 l1 t110 x6_2 t110 (t110.length : Int) x42_2 = some r) ∧ Aside0 (kq ≤ kj2) ∧ Aside0 (Kd.R k30 30 w' w.heap.size (fun _ => True) (.slice Ao25 t110.length co25) t110) ∧ Aside0 (Kd.R k30 30 w' w.heap.size (fun _ => True) (.slice Ao25 t110.length co25) t110) ∧ Aside0 (Below w.heap.size w w'))
     case atStart => exact ⟨(0), (0), (by first | rfl | (simp; done) | (simp [*]; done)), (by first | rfl | (simp; done) | (simp [*]; done)), H', ⟨Nat.le_refl _⟩, ⟨by (with_reducible repeat (first | apply Kd.R_alloc | apply Kd.R_drewN | apply Kd.R_drew)); exact HO112.out⟩, ⟨by (with_reducible repeat (first | apply Kd.R_alloc | apply Kd.R_drewN | apply Kd.R_drew)); exact HO112.out⟩, ⟨by repeat (first | (with_reducible first | exact HB.out | apply below_alloc | apply pw_below_drewN | apply below_drew1) | exact HB.out)⟩⟩
     case round =>
      clear H'
      try clear c1
      try clear c2
      try clear p2
      try clear c3
      try clear c4
      try clear c4b0
      try clear c4b1
      try clear c5
      try clear c5b0
      try clear c5b1
      try clear c8
      try clear c15
      try clear c16
      try clear c17
      try clear c18
      try clear c23
      try clear p2
      obtain ⟨x6_2, x42_2, rfl, rfl, HA, HK2, HO_5, HO_40, HB⟩ := hrel
      cases gk with
      | zero => exact absurd HA.out (by simp [tidepolelaw07_PairsMerge.l0])
      | succ k2 =>
       have H := HA.out
       clear HA
       simp only [tidepolelaw07_PairsMerge.l0] at H
       by_cases c28 : x42_2 < (t110.length : Int)
       ·rw [if_pos c28] at H
        have c28b0 : decide (x42_2 < (t110.length : Int)) = true := decide_eq_true c28
        clear c28
        by_cases c29 : 0 ≤ x42_2
        ·rw [if_pos c29] at H
         have c29b0 : decide (0 ≤ x42_2) = true := decide_eq_true c29
         clear c29
         by_cases c30 : x42_2 < (t110.length : Int)
         ·rw [if_pos c30] at H
          have c30b0 : decide (x42_2 < (t110.length : Int)) = true := decide_eq_true c30
          clear c30
          replace H := Option.bind_eq_some_iff.mp H
          obtain ⟨t120, A310, H⟩ := H
          replace H : ((tidepoleref07_Find.f k2 t120 ((rd_T30 t110 x42_2).f0)).bind fun t123 => ((tidepolelaw07_plain.f k2 l1).bind fun t124 => ((tidepoleref07_Find.f k2 t124 ((rd_T30 t110 x42_2).f0)).bind fun t127 => (if t123 ≥ 0 then (tidepolelaw07_PairsMerge.j2 k2 l0 l1 t110 x6_2 t123 t127 t110 (t110.length : Int) x42_2 (decide (t127 ≥ 0)) ((rd_T30 t110 x42_2).f0) ((rd_T30 t110 x42_2).f1)) else (tidepolelaw07_PairsMerge.j2 k2 l0 l1 t110 x6_2 t123 t127 t110 (t110.length : Int) x42_2 false ((rd_T30 t110 x42_2).f0) ((rd_T30 t110 x42_2).f1)))))) = some r := H
          have A31 := Aside0.mk A310
          clear A310
          replace H := Option.bind_eq_some_iff.mp H
          obtain ⟨t123, A320, H⟩ := H
          replace H : ((tidepolelaw07_plain.f k2 l1).bind fun t124 => ((tidepoleref07_Find.f k2 t124 ((rd_T30 t110 x42_2).f0)).bind fun t127 => (if t123 ≥ 0 then (tidepolelaw07_PairsMerge.j2 k2 l0 l1 t110 x6_2 t123 t127 t110 (t110.length : Int) x42_2 (decide (t127 ≥ 0)) ((rd_T30 t110 x42_2).f0) ((rd_T30 t110 x42_2).f1)) else (tidepolelaw07_PairsMerge.j2 k2 l0 l1 t110 x6_2 t123 t127 t110 (t110.length : Int) x42_2 false ((rd_T30 t110 x42_2).f0) ((rd_T30 t110 x42_2).f1))))) = some r := H
          have A32 := Aside0.mk A320
          clear A320
          replace H := Option.bind_eq_some_iff.mp H
          obtain ⟨t124, A330, H⟩ := H
          replace H : ((tidepoleref07_Find.f k2 t124 ((rd_T30 t110 x42_2).f0)).bind fun t127 => (if t123 ≥ 0 then (tidepolelaw07_PairsMerge.j2 k2 l0 l1 t110 x6_2 t123 t127 t110 (t110.length : Int) x42_2 (decide (t127 ≥ 0)) ((rd_T30 t110 x42_2).f0) ((rd_T30 t110 x42_2).f1)) else (tidepolelaw07_PairsMerge.j2 k2 l0 l1 t110 x6_2 t123 t127 t110 (t110.length : Int) x42_2 false ((rd_T30 t110 x42_2).f0) ((rd_T30 t110 x42_2).f1)))) = some r := H
          have A33 := Aside0.mk A330
          clear A330
          replace H := Option.bind_eq_some_iff.mp H
          obtain ⟨t127, A340, H⟩ := H
          replace H : (if t123 ≥ 0 then (tidepolelaw07_PairsMerge.j2 k2 l0 l1 t110 x6_2 t123 t127 t110 (t110.length : Int) x42_2 (decide (t127 ≥ 0)) ((rd_T30 t110 x42_2).f0) ((rd_T30 t110 x42_2).f1)) else (tidepolelaw07_PairsMerge.j2 k2 l0 l1 t110 x6_2 t123 t127 t110 (t110.length : Int) x42_2 false ((rd_T30 t110 x42_2).f0) ((rd_T30 t110 x42_2).f1))) = some r := H
          have A34 := Aside0.mk A340
          clear A340
          have HC35 := Aside0.mk H
          clear H
          have p118 : 0 ≤ (x42_2 : Int) := of_decide_eq_true (by first | (with_reducible assumption) | assumption)
          have q118 : x42_2 < (t110.length : Int) := of_decide_eq_true (by first | (with_reducible assumption) | assumption)
          obtain ⟨ad118, e118, hx118_0, hx118_1⟩ := at_T30 (Kd.R_reads' HO_40.out).2.2 x42_2 p118 q118
          cases e118
          replace p118 := eq_true p118
          replace q118 := eq_true q118
          try go_wp2_with (first | ((with_reducible refine gate_dst (N := 8) rfl ?_); (try (refine gate_guard (by rfl) ?_; dsimp only)); refine box_event ?hg (N := 8) ?hd (cs := #[.int .i64 0, .int .i64 0]) (t := 30) ?hr ?_; (case hd => rfl); (case hg => rfl); (case hr => first | (go_simp; done) | (go_simp; rfl)); intro gb119 hg w36 hbox hb; have n0_ := Aside0.mk (Kd.R_below (Kd.R_elderB (by (with_reducible repeat (first | apply Kd.R_alloc | apply Kd.R_drewN | apply Kd.R_drew)); exact HO_5.out) gb119 (Nat.le_of_eq hg.symm)) hb); have n1_ := Aside0.mk (Kd.R_below (Kd.R_elderB (by (with_reducible repeat (first | apply Kd.R_alloc | apply Kd.R_drewN | apply Kd.R_drew)); exact HO_40.out) gb119 (Nat.le_of_eq hg.symm)) hb); have n2_ := Aside0.mk (below_step (by repeat (first | (with_reducible first | exact HB.out | apply below_alloc | apply pw_below_drewN | apply below_drew1) | exact HB.out)) hb); have n3_ := Aside0.mk (hbox); have n4_ := Aside0.mk ((by rw [hg]; exact (below_size (by repeat (first | (with_reducible first | exact HB.out | apply below_alloc | apply pw_below_drewN | apply below_drew1) | exact HB.out))) : w.heap.size ≤ gb119)); have n5_ := Aside0.mk ((by rw [hg]; exact (below_size (by repeat (first | (with_reducible first | exact HB.out | apply below_alloc | apply pw_below_drewN | apply below_drew1) | exact HB.out))) : w.heap.size ≤ gb119)); clear HO_5; clear HO_40; clear HB; have HO_5 := n0_; have HO_40 := n1_; have HB := n2_; have BK119 := n3_; have GW119 := n4_; have GE119 := n5_; clear n0_ n1_ n2_ n3_ n4_ n5_; clear hb hbox hg; have hcz37_0 : w36.cell? ⟨gb119, 0, none⟩ = some (.int .i64 0) := (blk_cell BK119.out 0).trans rfl; have hcz37_1 : w36.cell? ⟨gb119, 1, none⟩ = some (.int .i64 0) := (blk_cell BK119.out 1).trans rfl; have hfz37_0 := blk_frozen BK119.out 0; have hfz37_1 := blk_frozen BK119.out 1))
          have n0_ : Aside0 (Kd.R k30 30 ((w36.setCell ⟨gb119, 0, none⟩ (.int .i64 ((rd_T30 t110 x42_2).f0))).setCell ⟨gb119, 1, none⟩ (.int .i64 ((rd_T30 t110 x42_2).f1))) w.heap.size (fun k_ => k_ ≠ gb119) (.slice (some ad118) t110.length co25) t110) := ⟨by (with_reducible repeat (first | apply Kd.R_alloc | apply Kd.R_drewN | apply Kd.R_drew)); exact Kd.R_mono (Kd.R_far (p := ⟨gb119, 1, none⟩) (Kd.R_far (p := ⟨gb119, 0, none⟩) (Kd.R_mono HO_5.out (fun k_ hk => (⟨hk, hk.2⟩ : _ ∧ k_ ≠ gb119))) (fun _ hk => hk.2) (.int .i64 ((rd_T30 t110 x42_2).f0))) (fun _ hk => hk.2) (.int .i64 ((rd_T30 t110 x42_2).f1))) (fun _ hk => hk.1.2)⟩
          have n1_ : Aside0 (Kd.R k30 30 ((w36.setCell ⟨gb119, 0, none⟩ (.int .i64 ((rd_T30 t110 x42_2).f0))).setCell ⟨gb119, 1, none⟩ (.int .i64 ((rd_T30 t110 x42_2).f1))) w.heap.size (fun k_ => k_ ≠ gb119) (.slice (some ad118) t110.length co25) t110) := ⟨by (with_reducible repeat (first | apply Kd.R_alloc | apply Kd.R_drewN | apply Kd.R_drew)); exact Kd.R_mono (Kd.R_far (p := ⟨gb119, 1, none⟩) (Kd.R_far (p := ⟨gb119, 0, none⟩) (Kd.R_mono HO_40.out (fun k_ hk => (⟨hk, hk.2⟩ : _ ∧ k_ ≠ gb119))) (fun _ hk => hk.2) (.int .i64 ((rd_T30 t110 x42_2).f0))) (fun _ hk => hk.2) (.int .i64 ((rd_T30 t110 x42_2).f1))) (fun _ hk => hk.1.2)⟩
          have n2_ : Aside0 (((w36.setCell ⟨gb119, 0, none⟩ (.int .i64 ((rd_T30 t110 x42_2).f0))).setCell ⟨gb119, 1, none⟩ (.int .i64 ((rd_T30 t110 x42_2).f1))).heap[gb119]? = some (.cells #[.int .i64 ((rd_T30 t110 x42_2).f0), .int .i64 ((rd_T30 t110 x42_2).f1)] 30 (0, 0))) := ⟨by (with_reducible repeat (first | refine blk_drewN ?_ _ | refine blk_drew ?_ | refine blk_alloc ?_ _)); refine blk_put (cs := #[.int .i64 ((rd_T30 t110 x42_2).f0), .int .i64 0]) ?_ 1 _ rfl; (with_reducible repeat (first | refine blk_drewN ?_ _ | refine blk_drew ?_ | refine blk_alloc ?_ _)); refine blk_put (cs := #[.int .i64 0, .int .i64 0]) ?_ 0 _ rfl; (with_reducible repeat (first | refine blk_drewN ?_ _ | refine blk_drew ?_ | refine blk_alloc ?_ _)); exact BK119.out⟩
          have n3_ : Aside0 (Below w.heap.size w ((w36.setCell ⟨gb119, 0, none⟩ (.int .i64 ((rd_T30 t110 x42_2).f0))).setCell ⟨gb119, 1, none⟩ (.int .i64 ((rd_T30 t110 x42_2).f1)))) := ⟨by repeat (first | (with_reducible first | exact HB.out | apply below_alloc | apply pw_below_drewN | apply below_drew1 | refine below_set ?_ GE119.out) | exact HB.out)⟩
          (try clear HO_5)
          (try clear HO_40)
          (try clear BK119)
          (try clear HB)
          generalize ((w36.setCell ⟨gb119, 0, none⟩ (.int .i64 ((rd_T30 t110 x42_2).f0))).setCell ⟨gb119, 1, none⟩ (.int .i64 ((rd_T30 t110 x42_2).f1))) = w38 at n0_ n1_ n2_ n3_ ⊢
          have HO_5 := n0_
          have HO_40 := n1_
          have BK119 := n2_
          have HB := n3_
          clear n0_ n1_ n2_ n3_
          have n0_ := Aside0.mk (Kd.R_drew HO_5.out)
          have n1_ := Aside0.mk (Kd.R_drew HO_40.out)
          have n2_ := Aside0.mk (blk_drew BK119.out)
          have n3_ := Aside0.mk (below_drew1 HB.out)
          clear HO_5
          clear HO_40
          clear BK119
          clear HB
          have HO_5 := n0_
          have HO_40 := n1_
          have BK119 := n2_
          have HB := n3_
          clear n0_ n1_ n2_ n3_
          refine start_ (n := 12) (S := fun w' => w'.cell? ⟨gb119, 0, none⟩ = some (.int .i64 ((rd_T30 t110 x42_2).f0)) ∧ w'.cell? ⟨gb119, 1, none⟩ = some (.int .i64 ((rd_T30 t110 x42_2).f1))) (ds := []) #[false, false, false, false, false, false, false, false, false, false, false, false] (by kernel_rfl) rfl rfl ⟨(blk_cell BK119.out 0).trans rfl, (blk_cell BK119.out 1).trans rfl⟩ (fun hHeld => ?_); refine with_tabW tidepolelaw07_PairsMerge.tab10 tidepolelaw07_PairsMerge.bits10 (fun HT_ HW_ => ?_)
          generalize w38.drew = w39 at HO_5 HO_40 BK119 HB hHeld ⊢
          refine pure_ (i := 0) (N := some 46) (v := ?_) (a' := ?_) #[true, false, false, false, false, false, false, false, false, false, false, false] rfl rfl (any_of HT_.out (by kernel_rfl)) (fun _ _ _ h => h) (Or.inl ⟨by rfl, ?_⟩) ?_ ?_
          rotate_left
          ·intro w'
           go_simp
           with_reducible rfl
          rotate_left
          ·simp only [Act.put, List.setIfInBounds_toArray, List.set_cons_zero, List.set_cons_succ, i64_w, i32_w]
           rfl
          refine pure_ (i := 2) (N := some 48) (v := ?_) (a' := ?_) #[true, false, true, false, false, false, false, false, false, false, false, false] rfl rfl (any_of HT_.out (by kernel_rfl)) (fun _ _ _ h => h) (Or.inl ⟨by rfl, ?_⟩) ?_ ?_
          rotate_left
          ·intro w'
           go_simp
           with_reducible rfl
          rotate_left
          ·simp only [Act.put, List.setIfInBounds_toArray, List.set_cons_zero, List.set_cons_succ, i64_w, i32_w]
           rfl
          refine pure_ (i := 5) (N := some 51) (v := ?_) (a' := ?_) #[true, false, true, false, false, true, false, false, false, false, false, false] rfl rfl (any_of HT_.out (by kernel_rfl)) (fun _ _ _ h => h) (Or.inl ⟨by rfl, ?_⟩) ?_ ?_
          rotate_left
          ·intro w'
           go_simp
           with_reducible rfl
          rotate_left
          ·simp only [Act.put, List.setIfInBounds_toArray, List.set_cons_zero, List.set_cons_succ, i64_w, i32_w]
           rfl
          refine pure_ (i := 7) (N := some 53) (v := ?_) (a' := ?_) #[true, false, true, false, false, true, false, true, false, false, false, false] rfl rfl (any_of HT_.out (by kernel_rfl)) (fun _ _ _ h => h) (Or.inl ⟨by rfl, ?_⟩) ?_ ?_
          rotate_left
          ·intro w'
           go_simp
           with_reducible rfl
          rotate_left
          ·simp only [Act.put, List.setIfInBounds_toArray, List.set_cons_zero, List.set_cons_succ, i64_w, i32_w]
           rfl
          refine take_ (i := 3) (N := some 49) (v := ?_) (a' := ?_) #[true, false, true, true, false, true, false, true, false, false, false, false] rfl rfl (take_ofW HT_.out HW_.out (by kernel_rfl)) (fun _ _ _ h => h) (Or.inl ⟨by rfl, ?_⟩) hHeld ?_ ?_
          rotate_left
          ·rintro w' ⟨s0, s1⟩
           go_simp
           with_reducible rfl
          rotate_left
          ·simp only [Act.put, List.setIfInBounds_toArray, List.set_cons_zero, List.set_cons_succ, i64_w, i32_w]
           rfl
          refine take_ (i := 8) (N := some 54) (v := ?_) (a' := ?_) #[true, false, true, true, false, true, false, true, true, false, false, false] rfl rfl (take_ofW HT_.out HW_.out (by kernel_rfl)) (fun _ _ _ h => h) (Or.inl ⟨by rfl, ?_⟩) hHeld ?_ ?_
          rotate_left
          ·rintro w' ⟨s0, s1⟩
           go_simp
           with_reducible rfl
          rotate_left
          ·simp only [Act.put, List.setIfInBounds_toArray, List.set_cons_zero, List.set_cons_succ, i64_w, i32_w]
           rfl
          refine one_ (i := 1) (N := some 47) #[true, true, true, true, false, true, false, true, true, false, false, false] rfl rfl (one_of HT_.out (by kernel_rfl)) (by decide) (fun K hK => ?_)
          refine goes_ Try.func16 (by kernel_rfl) rfl #[.slice A0 l0.length c0] (by rfl) rfl rfl (by (try simp only [List.map_toArray, List.map_cons, List.map_nil]); first | done | rfl | (simp only [List.length_drop, List.length_take]; rfl)) ?_
          with_reducible refine (tidepolelaw07_plain.calls k2 _ _ l0 t120 _ ?side1 ?side2 A31.out).mono ?_
          (case side1 => repeat (first | exact (Kd.C_below HR0.out HB.out) | (with_reducible refine Kd.C_alloc ?_ _) | (with_reducible refine Kd.C_drewN ?_ _) | (with_reducible refine Kd.C_drew ?_)))
          (case side2 => exact HC0.out)
          rintro e w40 ⟨v121, rfl, ho0, hb⟩
          refine ⟨_, rfl, ?_⟩
          have n0_ := Aside0.mk (Kd.R_below (by (with_reducible repeat (first | apply Kd.R_alloc | apply Kd.R_drewN | apply Kd.R_drew)); exact HO_5.out) hb)
          have n1_ := Aside0.mk (Kd.R_below (by (with_reducible repeat (first | apply Kd.R_alloc | apply Kd.R_drewN | apply Kd.R_drew)); exact HO_40.out) hb)
          have n2_ := Aside0.mk (Kd.R_lower ho0 (below_size (by repeat (first | (with_reducible first | exact HB.out | apply below_alloc | apply pw_below_drewN | apply below_drew1 | refine below_set ?_ GE119.out) | exact HB.out))))
          have n3_ := Aside0.mk (blk_below (g := gb119) (o := .cells #[.int .i64 ((rd_T30 t110 x42_2).f0), .int .i64 ((rd_T30 t110 x42_2).f1)] 30 (0, 0)) (by (with_reducible repeat (first | refine blk_drewN ?_ _ | refine blk_drew ?_ | refine blk_alloc ?_ _)); exact BK119.out) hb)
          have n4_ := Aside0.mk (below_step (by repeat (first | (with_reducible first | exact HB.out | apply below_alloc | apply pw_below_drewN | apply below_drew1 | refine below_set ?_ GE119.out) | exact HB.out)) hb)
          clear HO_5
          clear HO_40
          clear BK119
          clear HB
          have HO_5 := n0_
          have HO_40 := n1_
          have HO122 := n2_
          have BK119 := n3_
          have HB := n4_
          clear n0_ n1_ n2_ n3_ n4_
          (try clear hb)
          (try clear hb2)
          (try clear hk)
          (try clear hi)
          (try clear ho0)
          obtain ⟨Ao41, co41, eo41⟩ := Kd.R_slice HO122.out
          (first | subst eo41 | (injection eo41 with f1_ f2_ f3_; have f4_ := f1_.symm; have f5_ := f3_.symm; clear f1_ f2_ f3_; subst f4_; subst f5_))
          refine hK.out _ _ ⟨(blk_cell BK119.out 0).trans rfl, (blk_cell BK119.out 1).trans rfl⟩ (fun hHeld => ?_)
          clear hK K
          refine norm_ (a' := ?_) ?_ ?_
          rotate_left
          ·show Act.put _ (some 47) _ = _
           simp only [Act.put, List.setIfInBounds_toArray, List.set_cons_zero, List.set_cons_succ, i64_w, i32_w]
           rfl
          refine one_ (i := 4) (N := some 50) #[true, true, true, true, true, true, false, true, true, false, false, false] rfl rfl (one_of HT_.out (by kernel_rfl)) (by decide) (fun K hK => ?_)
          refine goes_ Try.func20 (by kernel_rfl) rfl #[.slice Ao41 t120.length co41, .int .i64 ((rd_T30 t110 x42_2).f0)] (by rfl) rfl rfl (by (try simp only [List.map_toArray, List.map_cons, List.map_nil]); first | done | rfl | (simp only [List.length_drop, List.length_take]; rfl)) ?_
          with_reducible refine (tidepoleref07_Find.calls k2 _ _ t120 ((rd_T30 t110 x42_2).f0) t123 _ ?side1 ?side2 A32.out).mono ?_
          (case side1 => repeat (first | exact (Kd.R_reads' HO122.out).2.2 | (with_reducible refine Kd.C_alloc ?_ _) | (with_reducible refine Kd.C_drewN ?_ _) | (with_reducible refine Kd.C_drew ?_)))
          (case side2 => exact (Kd.R_reads' HO122.out).2.1)
          rintro e w' ⟨rfl, ⟨nd, rfl⟩⟩
          refine ⟨_, rfl, ?_⟩
          refine hK.out _ _ ⟨(blk_cell BK119.out 0).trans rfl, (blk_cell BK119.out 1).trans rfl⟩ (fun hHeld => ?_)
          clear hK K
          refine norm_ (a' := ?_) ?_ ?_
          rotate_left
          ·show Act.put _ (some 50) _ = _
           simp only [Act.put, List.setIfInBounds_toArray, List.set_cons_zero, List.set_cons_succ, i64_w, i32_w]
           rfl
          refine one_ (i := 6) (N := some 52) #[true, true, true, true, true, true, true, true, true, false, false, false] rfl rfl (one_of HT_.out (by kernel_rfl)) (by decide) (fun K hK => ?_)
          refine goes_ Try.func16 (by kernel_rfl) rfl #[.slice A1 l1.length c1] (by rfl) rfl rfl (by (try simp only [List.map_toArray, List.map_cons, List.map_nil]); first | done | rfl | (simp only [List.length_drop, List.length_take]; rfl)) ?_
          with_reducible refine (tidepolelaw07_plain.calls k2 _ _ l1 t124 _ ?side1 ?side2 A33.out).mono ?_
          (case side1 => repeat (first | exact (Kd.C_below HR1.out (by repeat (first | (with_reducible first | exact HB.out | apply below_alloc | apply pw_below_drewN | apply below_drew1 | refine below_set ?_ GE119.out) | exact HB.out))) | (with_reducible refine Kd.C_alloc ?_ _) | (with_reducible refine Kd.C_drewN ?_ _) | (with_reducible refine Kd.C_drew ?_)))
          (case side2 => exact HC1.out)
          rintro e w42 ⟨v125, rfl, ho0, hb⟩
          refine ⟨_, rfl, ?_⟩
          have n0_ := Aside0.mk (Kd.R_below (by (with_reducible repeat (first | apply Kd.R_alloc | apply Kd.R_drewN | apply Kd.R_drew)); exact HO_5.out) hb)
          have n1_ := Aside0.mk (Kd.R_below (by (with_reducible repeat (first | apply Kd.R_alloc | apply Kd.R_drewN | apply Kd.R_drew)); exact HO_40.out) hb)
          have n2_ := Aside0.mk (Kd.R_elder' (by (with_reducible repeat (first | apply Kd.R_alloc | apply Kd.R_drewN | apply Kd.R_drew)); exact HO122.out) (Kd.R_base ho0) hb)
          have n3_ := Aside0.mk (Kd.R_lower (Kd.R_new' ho0 (Kd.R_lt (by (with_reducible repeat (first | apply Kd.R_alloc | apply Kd.R_drewN | apply Kd.R_drew)); exact HO122.out))) (below_size (by repeat (first | (with_reducible first | exact HB.out | apply below_alloc | apply pw_below_drewN | apply below_drew1 | refine below_set ?_ GE119.out) | exact HB.out))))
          have n4_ := Aside0.mk (blk_below (g := gb119) (o := .cells #[.int .i64 ((rd_T30 t110 x42_2).f0), .int .i64 ((rd_T30 t110 x42_2).f1)] 30 (0, 0)) (by (with_reducible repeat (first | refine blk_drewN ?_ _ | refine blk_drew ?_ | refine blk_alloc ?_ _)); exact BK119.out) hb)
          have n5_ := Aside0.mk (below_step (by repeat (first | (with_reducible first | exact HB.out | apply below_alloc | apply pw_below_drewN | apply below_drew1 | refine below_set ?_ GE119.out) | exact HB.out)) hb)
          clear HO_5
          clear HO_40
          clear HO122
          clear BK119
          clear HB
          have HO_5 := n0_
          have HO_40 := n1_
          have HO122 := n2_
          have HO126 := n3_
          have BK119 := n4_
          have HB := n5_
          clear n0_ n1_ n2_ n3_ n4_ n5_
          (try clear hb)
          (try clear hb2)
          (try clear hk)
          (try clear hi)
          (try clear ho0)
          obtain ⟨Ao43, co43, eo43⟩ := Kd.R_slice HO126.out
          (first | subst eo43 | (injection eo43 with f1_ f2_ f3_; have f4_ := f1_.symm; have f5_ := f3_.symm; clear f1_ f2_ f3_; subst f4_; subst f5_))
          refine hK.out _ _ ⟨(blk_cell BK119.out 0).trans rfl, (blk_cell BK119.out 1).trans rfl⟩ (fun hHeld => ?_)
          clear hK K
          refine norm_ (a' := ?_) ?_ ?_
          rotate_left
          ·show Act.put _ (some 52) _ = _
           simp only [Act.put, List.setIfInBounds_toArray, List.set_cons_zero, List.set_cons_succ, i64_w, i32_w]
           rfl
          refine one_ (i := 9) (N := some 55) #[true, true, true, true, true, true, true, true, true, true, false, false] rfl rfl (one_of HT_.out (by kernel_rfl)) (by decide) (fun K hK => ?_)
          refine goes_ Try.func20 (by kernel_rfl) rfl #[.slice Ao43 t124.length co43, .int .i64 ((rd_T30 t110 x42_2).f0)] (by rfl) rfl rfl (by (try simp only [List.map_toArray, List.map_cons, List.map_nil]); first | done | rfl | (simp only [List.length_drop, List.length_take]; rfl)) ?_
          with_reducible refine (tidepoleref07_Find.calls k2 _ _ t124 ((rd_T30 t110 x42_2).f0) t127 _ ?side1 ?side2 A34.out).mono ?_
          (case side1 => repeat (first | exact (Kd.R_reads' HO126.out).2.2 | (with_reducible refine Kd.C_alloc ?_ _) | (with_reducible refine Kd.C_drewN ?_ _) | (with_reducible refine Kd.C_drew ?_)))
          (case side2 => exact (Kd.R_reads' HO126.out).2.1)
          rintro e w' ⟨rfl, ⟨nd, rfl⟩⟩
          refine ⟨_, rfl, ?_⟩
          refine hK.out _ _ ⟨(blk_cell BK119.out 0).trans rfl, (blk_cell BK119.out 1).trans rfl⟩ (fun hHeld => ?_)
          clear hK K
          refine norm_ (a' := ?_) ?_ ?_
          rotate_left
          ·show Act.put _ (some 55) _ = _
           simp only [Act.put, List.setIfInBounds_toArray, List.set_cons_zero, List.set_cons_succ, i64_w, i32_w]
           rfl
          refine pure_ (i := 10) (N := some 9) (v := ?_) (a' := ?_) #[true, true, true, true, true, true, true, true, true, true, true, false] rfl rfl (any_of HT_.out (by kernel_rfl)) (fun _ _ _ h => h) (Or.inl ⟨by rfl, ?_⟩) ?_ ?_
          rotate_left
          ·intro w'
           go_simp
           with_reducible rfl
          rotate_left
          ·simp only [Act.put, List.setIfInBounds_toArray, List.set_cons_zero, List.set_cons_succ, i64_w, i32_w]
           rfl
          refine pure_ (i := 11) (N := some 10) (v := ?_) (a' := ?_) #[true, true, true, true, true, true, true, true, true, true, true, true] rfl rfl (any_of HT_.out (by kernel_rfl)) (fun _ _ _ h => h) (Or.inl ⟨by rfl, ?_⟩) ?_ ?_
          rotate_left
          ·intro w'
           go_simp
           with_reducible rfl
          rotate_left
          ·simp only [Act.put, List.setIfInBounds_toArray, List.set_cons_zero, List.set_cons_succ, i64_w, i32_w]
           rfl
          refine done_ (done_of HT_.out (by kernel_rfl)) ?_
          go_upto_region 13 with (fail)
          go_cut [56] (fun v56 wc => ∃ (kq : Nat) (x56_34 : Bool), v56 = .bool x56_34 ∧ Aside0 (tidepolelaw07_PairsMerge.j2 kq l0 l1 t110 x6_2 t123 t127 t110 (t110.length : Int) x42_2 x56_34 ((rd_T30 t110 x42_2).f0) ((rd_T30 t110 x42_2).f1) = some r) ∧ Aside0 (kq ≤ k2) ∧ Aside0 (Kd.R k30 30 wc w.heap.size (fun k_ => k_ ≠ gb119) (.slice (some ad118) t110.length co25) t110) ∧ Aside0 (Kd.R k30 30 wc w.heap.size (fun k_ => k_ ≠ gb119) (.slice (some ad118) t110.length co25) t110) ∧ Aside0 (wc.heap[gb119]? = some (.cells #[.int .i64 ((rd_T30 t110 x42_2).f0), .int .i64 ((rd_T30 t110 x42_2).f1)] 30 (0, 0))) ∧ Aside0 (Below w.heap.size w wc))
          case first =>
           have H := HC35.out
           clear HC35
           by_cases c44 : t123 ≥ 0
           ·rw [if_pos c44] at H
            have c44b0 : decide (0 ≤ t123) = true := decide_eq_true c44
            clear c44
            (first | rw [c44b0] | (simp only [i64_w, i32_w]; rw [c44b0]) | skip)
            have H' := Aside0.mk H
            clear H
            go_wp2
            go_meet
            case rel => exact ⟨_, (decide (t127 ≥ 0)), (by first | rfl | (simp; done) | (simp [*]; done)), H', ⟨by have := HJ2.out; have := HK2.out; first | omega | exact Nat.le_refl _⟩, ⟨by (with_reducible repeat (first | apply Kd.R_alloc | apply Kd.R_drewN | apply Kd.R_drew)); exact HO_5.out⟩, ⟨by (with_reducible repeat (first | apply Kd.R_alloc | apply Kd.R_drewN | apply Kd.R_drew)); exact HO_40.out⟩, ⟨by (with_reducible repeat (first | refine blk_drewN ?_ _ | refine blk_drew ?_ | refine blk_alloc ?_ _)); exact BK119.out⟩, ⟨by repeat (first | (with_reducible first | exact HB.out | apply below_alloc | apply pw_below_drewN | apply below_drew1 | refine below_set ?_ GE119.out) | exact HB.out)⟩⟩
           ·rw [if_neg c44] at H
            have c44b0 : decide (0 ≤ t123) = false := decide_eq_false c44
            clear c44
            (first | rw [c44b0] | (simp only [i64_w, i32_w]; rw [c44b0]) | skip)
            have H' := Aside0.mk H
            clear H
            go_wp2
            go_meet
            case rel => exact ⟨_, (false), (by first | rfl | (simp; done) | (simp [*]; done)), H', ⟨by have := HJ2.out; have := HK2.out; first | omega | exact Nat.le_refl _⟩, ⟨by (with_reducible repeat (first | apply Kd.R_alloc | apply Kd.R_drewN | apply Kd.R_drew)); exact HO_5.out⟩, ⟨by (with_reducible repeat (first | apply Kd.R_alloc | apply Kd.R_drewN | apply Kd.R_drew)); exact HO_40.out⟩, ⟨by (with_reducible repeat (first | refine blk_drewN ?_ _ | refine blk_drew ?_ | refine blk_alloc ?_ _)); exact BK119.out⟩, ⟨by repeat (first | (with_reducible first | exact HB.out | apply below_alloc | apply pw_below_drewN | apply below_drew1 | refine below_set ?_ GE119.out) | exact HB.out)⟩⟩
          case rest =>
           clear HC35
           try clear c1
           try clear p1
           try clear q1
           try clear hx1
           try clear c2
           try clear p2
           try clear c3
           try clear c4
           try clear c4b0
           try clear c4b1
           try clear c5
           try clear c5b0
           try clear c5b1
           try clear c8
           try clear p11
           try clear q11
           try clear hx11
           try clear c15
           try clear c16
           try clear c17
           try clear c18
           try clear c20
           try clear c23
           try clear c28
           try clear c28b0
           try clear c29
           try clear c29b0
           try clear c30
           try clear c30b0
           try clear c44
           try clear c44b0
           try clear hcz37_0
           try clear hcz37_1
           try clear hfz37_0
           try clear hfz37_1
           try clear hx118_0
           try clear hx118_1
           try clear p118
           try clear p2
           try clear q118
           obtain ⟨kq, x56_34, rfl, HA, HJ34, HO_5, HO_40, BK119, HB⟩ := hcut
           cases kq with
           | zero => exact absurd HA.out (by simp [tidepolelaw07_PairsMerge.j2])
           | succ kj34 =>
            have H := HA.out
            clear HA
            simp only [tidepolelaw07_PairsMerge.j2] at H
            by_cases c45 : x56_34 = true
            ·subst c45
             have H1 : (if 0 ≤ t123 then (if t123 < (l0.length : Int) then (if 0 ≤ t127 then (if t127 < (l1.length : Int) then (if ((rd_T30 t110 x42_2).f1) = (wrap64 ((wrap64 (3 * ((rd_T30 l0 t123).f1))) + ((rd_T30 l1 t127).f1))) then (tidepolelaw07_PairsMerge.l0 kj34 l0 l1 t110 (wrap64 (x6_2 + 1)) t110 (t110.length : Int) (wrap64 (x42_2 + 1))) else (some false)) else (none)) else (none)) else (none)) else (none)) = some r := by rw [if_pos rfl] at H; exact H
             clear H
             have H := H1
             clear H1
             by_cases c46 : 0 ≤ t123
             ·rw [if_pos c46] at H
              have c46b0 : decide (0 ≤ t123) = true := decide_eq_true c46
              clear c46
              by_cases c47 : t123 < (l0.length : Int)
              ·rw [if_pos c47] at H
               have c47b0 : decide (t123 < (l0.length : Int)) = true := decide_eq_true c47
               clear c47
               by_cases c48 : 0 ≤ t127
               ·rw [if_pos c48] at H
                have c48b0 : decide (0 ≤ t127) = true := decide_eq_true c48
                clear c48
                by_cases c49 : t127 < (l1.length : Int)
                ·rw [if_pos c49] at H
                 have c49b0 : decide (t127 < (l1.length : Int)) = true := decide_eq_true c49
                 clear c49
                 by_cases c50 : ((rd_T30 t110 x42_2).f1) = (wrap64 ((wrap64 (3 * ((rd_T30 l0 t123).f1))) + ((rd_T30 l1 t127).f1)))
                 ·rw [if_pos c50] at H
                  have c50b0 : (((rd_T30 t110 x42_2).f1) == (wrap64 ((wrap64 (3 * ((rd_T30 l0 t123).f1))) + ((rd_T30 l1 t127).f1)))) = true := beq_iff_eq.mpr c50
                  have c50b1 : (((rd_T30 t110 x42_2).f1) != (wrap64 ((wrap64 (3 * ((rd_T30 l0 t123).f1))) + ((rd_T30 l1 t127).f1)))) = false := bne_eq_false_iff_eq.mpr c50
                  clear c50
                  have H' := Aside0.mk H
                  clear H
                  try go_wp2
                  have n0_ := Aside0.mk (Kd.R_drew HO_5.out)
                  have n1_ := Aside0.mk (Kd.R_drew HO_40.out)
                  have n2_ := Aside0.mk (blk_drew BK119.out)
                  have n3_ := Aside0.mk (below_drew1 HB.out)
                  clear HO_5
                  clear HO_40
                  clear BK119
                  clear HB
                  have HO_5 := n0_
                  have HO_40 := n1_
                  have BK119 := n2_
                  have HB := n3_
                  clear n0_ n1_ n2_ n3_
                  have p128 : 0 ≤ (t123 : Int) := of_decide_eq_true (by first | (with_reducible assumption) | assumption)
                  have q128 : t123 < (l0.length : Int) := of_decide_eq_true (by first | (with_reducible assumption) | assumption)
                  obtain ⟨ad128, e128, hx128_0, hx128_1⟩ := at_T30 HR0.out t123 p128 q128
                  have hw128_1 := hx128_1
                  have hw128_0 := hx128_0
                  cases e128
                  replace hx128_0 := (HB.out.cell (World.block_lt_of_cell? w _ hx128_0)).trans hx128_0
                  replace hx128_1 := (HB.out.cell (World.block_lt_of_cell? w _ hx128_1)).trans hx128_1
                  replace p128 := eq_true p128
                  replace q128 := eq_true q128
                  have p129 : 0 ≤ (t127 : Int) := of_decide_eq_true (by first | (with_reducible assumption) | assumption)
                  have q129 : t127 < (l1.length : Int) := of_decide_eq_true (by first | (with_reducible assumption) | assumption)
                  obtain ⟨ad129, e129, hx129_0, hx129_1⟩ := at_T30 HR1.out t127 p129 q129
                  have hw129_1 := hx129_1
                  have hw129_0 := hx129_0
                  cases e129
                  replace hx129_0 := (HB.out.cell (World.block_lt_of_cell? w _ hx129_0)).trans hx129_0
                  replace hx129_1 := (HB.out.cell (World.block_lt_of_cell? w _ hx129_1)).trans hx129_1
                  replace p129 := eq_true p129
                  replace q129 := eq_true q129
                  refine start_ (n := 13) (S := fun w' => w'.cell? (ad128.add ((t123).toNat * 2)) = some (.int .i64 ((rd_T30 l0 t123).f0)) ∧ w'.cell? ⟨(ad128.add ((t123).toNat * 2)).block, (ad128.add ((t123).toNat * 2)).off + 1, none⟩ = some (.int .i64 ((rd_T30 l0 t123).f1)) ∧ w'.cell? (ad129.add ((t127).toNat * 2)) = some (.int .i64 ((rd_T30 l1 t127).f0)) ∧ w'.cell? ⟨(ad129.add ((t127).toNat * 2)).block, (ad129.add ((t127).toNat * 2)).off + 1, none⟩ = some (.int .i64 ((rd_T30 l1 t127).f1))) (ds := []) #[false, false, false, false, false, false, false, false, false, false, false, false, false] (by kernel_rfl) rfl rfl ⟨((HB.out.cell (World.block_lt_of_cell? w _ hw128_0)).trans hw128_0), ((HB.out.cell (World.block_lt_of_cell? w _ hw128_1)).trans hw128_1), ((HB.out.cell (World.block_lt_of_cell? w _ hw129_0)).trans hw129_0), ((HB.out.cell (World.block_lt_of_cell? w _ hw129_1)).trans hw129_1)⟩ (fun hHeld => ?_); refine with_tabW tidepolelaw07_PairsMerge.tab14 tidepolelaw07_PairsMerge.bits14 (fun HT_ HW_ => ?_)
                  generalize wc.drew = w51 at HO_5 HO_40 BK119 HB hx128_0 hx128_1 hx129_0 hx129_1 hHeld ⊢
                  refine pure_ (i := 0) (N := some 63) (v := ?_) (a' := ?_) #[true, false, false, false, false, false, false, false, false, false, false, false, false] rfl rfl (any_of HT_.out (by kernel_rfl)) (fun _ _ _ h => h) (Or.inl ⟨by rfl, ?_⟩) ?_ ?_
                  rotate_left
                  ·intro w'
                   go_simp
                   with_reducible rfl
                  rotate_left
                  ·simp only [Act.put, List.setIfInBounds_toArray, List.set_cons_zero, List.set_cons_succ, i64_w, i32_w]
                   rfl
                  refine pure_ (i := 1) (N := some 64) (v := ?_) (a' := ?_) #[true, true, false, false, false, false, false, false, false, false, false, false, false] rfl rfl (any_of HT_.out (by kernel_rfl)) (fun _ _ _ h => h) (Or.inl ⟨by rfl, ?_⟩) ?_ ?_
                  rotate_left
                  ·intro w'
                   go_simp
                   with_reducible rfl
                  rotate_left
                  ·simp only [Act.put, List.setIfInBounds_toArray, List.set_cons_zero, List.set_cons_succ, i64_w, i32_w]
                   rfl
                  refine pure_ (i := 2) (N := some 65) (v := ?_) (a' := ?_) #[true, true, true, false, false, false, false, false, false, false, false, false, false] rfl rfl (any_of HT_.out (by kernel_rfl)) (fun _ _ _ h => h) (Or.inl ⟨by rfl, ?_⟩) ?_ ?_
                  rotate_left
                  ·intro w'
                   go_simp
                   with_reducible rfl
                  rotate_left
                  ·simp only [Act.put, List.setIfInBounds_toArray, List.set_cons_zero, List.set_cons_succ, i64_w, i32_w]
                   rfl
                  refine pure_ (i := 3) (N := some 66) (v := ?_) (a' := ?_) #[true, true, true, true, false, false, false, false, false, false, false, false, false] rfl rfl (any_of HT_.out (by kernel_rfl)) (fun _ _ _ h => h) (Or.inl ⟨by rfl, ?_⟩) ?_ ?_
                  rotate_left
                  ·intro w'
                   go_simp
                   with_reducible rfl
                  rotate_left
                  ·simp only [Act.put, List.setIfInBounds_toArray, List.set_cons_zero, List.set_cons_succ, i64_w, i32_w]
                   rfl
                  refine pure_ (i := 6) (N := some 69) (v := ?_) (a' := ?_) #[true, true, true, true, false, false, true, false, false, false, false, false, false] rfl rfl (any_of HT_.out (by kernel_rfl)) (fun _ _ _ h => h) (Or.inl ⟨by rfl, ?_⟩) ?_ ?_
                  rotate_left
                  ·intro w'
                   go_simp
                   with_reducible rfl
                  rotate_left
                  ·simp only [Act.put, List.setIfInBounds_toArray, List.set_cons_zero, List.set_cons_succ, i64_w, i32_w]
                   rfl
                  refine pure_ (i := 7) (N := some 70) (v := ?_) (a' := ?_) #[true, true, true, true, false, false, true, true, false, false, false, false, false] rfl rfl (any_of HT_.out (by kernel_rfl)) (fun _ _ _ h => h) (Or.inl ⟨by rfl, ?_⟩) ?_ ?_
                  rotate_left
                  ·intro w'
                   go_simp
                   with_reducible rfl
                  rotate_left
                  ·simp only [Act.put, List.setIfInBounds_toArray, List.set_cons_zero, List.set_cons_succ, i64_w, i32_w]
                   rfl
                  refine pure_ (i := 8) (N := some 71) (v := ?_) (a' := ?_) #[true, true, true, true, false, false, true, true, true, false, false, false, false] rfl rfl (any_of HT_.out (by kernel_rfl)) (fun _ _ _ h => h) (Or.inl ⟨by rfl, ?_⟩) ?_ ?_
                  rotate_left
                  ·intro w'
                   go_simp
                   with_reducible rfl
                  rotate_left
                  ·simp only [Act.put, List.setIfInBounds_toArray, List.set_cons_zero, List.set_cons_succ, i64_w, i32_w]
                   rfl
                  refine pure_ (i := 9) (N := some 72) (v := ?_) (a' := ?_) #[true, true, true, true, false, false, true, true, true, true, false, false, false] rfl rfl (any_of HT_.out (by kernel_rfl)) (fun _ _ _ h => h) (Or.inl ⟨by rfl, ?_⟩) ?_ ?_
                  rotate_left
                  ·intro w'
                   go_simp
                   with_reducible rfl
                  rotate_left
                  ·simp only [Act.put, List.setIfInBounds_toArray, List.set_cons_zero, List.set_cons_succ, i64_w, i32_w]
                   rfl
                  refine take_ (i := 4) (N := some 67) (v := ?_) (a' := ?_) #[true, true, true, true, true, false, true, true, true, true, false, false, false] rfl rfl (take_ofW HT_.out HW_.out (by kernel_rfl)) (fun _ _ _ h => h) (Or.inl ⟨by rfl, ?_⟩) hHeld ?_ ?_
                  rotate_left
                  ·rintro w' ⟨s0, s1, s2, s3⟩
                   go_simp
                   with_reducible rfl
                  rotate_left
                  ·simp only [Act.put, List.setIfInBounds_toArray, List.set_cons_zero, List.set_cons_succ, i64_w, i32_w]
                   rfl
                  refine pure_ (i := 5) (N := some 68) (v := ?_) (a' := ?_) #[true, true, true, true, true, true, true, true, true, true, false, false, false] rfl rfl (any_of HT_.out (by kernel_rfl)) (fun _ _ _ h => h) (Or.inl ⟨by rfl, ?_⟩) ?_ ?_
                  rotate_left
                  ·intro w'
                   go_simp
                   with_reducible rfl
                  rotate_left
                  ·simp only [Act.put, List.setIfInBounds_toArray, List.set_cons_zero, List.set_cons_succ, i64_w, i32_w]
                   rfl
                  refine take_ (i := 10) (N := some 73) (v := ?_) (a' := ?_) #[true, true, true, true, true, true, true, true, true, true, true, false, false] rfl rfl (take_ofW HT_.out HW_.out (by kernel_rfl)) (fun _ _ _ h => h) (Or.inl ⟨by rfl, ?_⟩) hHeld ?_ ?_
                  rotate_left
                  ·rintro w' ⟨s0, s1, s2, s3⟩
                   go_simp
                   with_reducible rfl
                  rotate_left
                  ·simp only [Act.put, List.setIfInBounds_toArray, List.set_cons_zero, List.set_cons_succ, i64_w, i32_w]
                   rfl
                  refine pure_ (i := 11) (N := some 74) (v := ?_) (a' := ?_) #[true, true, true, true, true, true, true, true, true, true, true, true, false] rfl rfl (any_of HT_.out (by kernel_rfl)) (fun _ _ _ h => h) (Or.inl ⟨by rfl, ?_⟩) ?_ ?_
                  rotate_left
                  ·intro w'
                   go_simp
                   with_reducible rfl
                  rotate_left
                  ·simp only [Act.put, List.setIfInBounds_toArray, List.set_cons_zero, List.set_cons_succ, i64_w, i32_w]
                   rfl
                  refine pure_ (i := 12) (N := some 11) (v := ?_) (a' := ?_) #[true, true, true, true, true, true, true, true, true, true, true, true, true] rfl rfl (any_of HT_.out (by kernel_rfl)) (fun _ _ _ h => h) (Or.inl ⟨by rfl, ?_⟩) ?_ ?_
                  rotate_left
                  ·intro w'
                   go_simp
                   with_reducible rfl
                  rotate_left
                  ·simp only [Act.put, List.setIfInBounds_toArray, List.set_cons_zero, List.set_cons_succ, i64_w, i32_w]
                   rfl
                  refine done_ (done_of HT_.out (by kernel_rfl)) ?_
                  have hcz52_0 : w51.cell? ⟨gb119, 0, none⟩ = some (.int .i64 ((rd_T30 t110 x42_2).f0)) := (blk_cell BK119.out 0).trans rfl
                  have hcz52_1 : w51.cell? ⟨gb119, 1, none⟩ = some (.int .i64 ((rd_T30 t110 x42_2).f1)) := (blk_cell BK119.out 1).trans rfl
                  have hfz52_0 := blk_frozen BK119.out 0
                  have hfz52_1 := blk_frozen BK119.out 1
                  try go_wp2
                  go_roundg kj34
                  case measure => have := HJ2.out; have := HK2.out; have := HJ34.out; omega
                  case rel => exact ⟨(wrap64 (x6_2 + 1)), (wrap64 (x42_2 + 1)), (by first | rfl | (simp; done) | (simp [*]; done)), (by first | rfl | (simp; done) | (simp [*]; done)), H', ⟨by have := HJ2.out; have := HK2.out; have := HJ34.out; omega⟩, ⟨by (with_reducible repeat (first | apply Kd.R_alloc | apply Kd.R_drewN | apply Kd.R_drew)); exact Kd.R_mono HO_5.out (fun _ hk => trivial)⟩, ⟨by (with_reducible repeat (first | apply Kd.R_alloc | apply Kd.R_drewN | apply Kd.R_drew)); exact Kd.R_mono HO_40.out (fun _ hk => trivial)⟩, ⟨by repeat (first | (with_reducible first | exact HB.out | apply below_alloc | apply pw_below_drewN | apply below_drew1 | refine below_set ?_ GE119.out) | exact HB.out)⟩⟩
                 ·rw [if_neg c50] at H
                  have c50b0 : (((rd_T30 t110 x42_2).f1) == (wrap64 ((wrap64 (3 * ((rd_T30 l0 t123).f1))) + ((rd_T30 l1 t127).f1)))) = false := beq_eq_false_iff_ne.mpr c50
                  have c50b1 : (((rd_T30 t110 x42_2).f1) != (wrap64 ((wrap64 (3 * ((rd_T30 l0 t123).f1))) + ((rd_T30 l1 t127).f1)))) = true := bne_iff_ne.mpr c50
                  obtain rfl := Option.some.inj H
                  try go_wp2
                  have n0_ := Aside0.mk (Kd.R_drew HO_5.out)
                  have n1_ := Aside0.mk (Kd.R_drew HO_40.out)
                  have n2_ := Aside0.mk (blk_drew BK119.out)
                  have n3_ := Aside0.mk (below_drew1 HB.out)
                  clear HO_5
                  clear HO_40
                  clear BK119
                  clear HB
                  have HO_5 := n0_
                  have HO_40 := n1_
                  have BK119 := n2_
                  have HB := n3_
                  clear n0_ n1_ n2_ n3_
                  have p128 : 0 ≤ (t123 : Int) := of_decide_eq_true (by first | (with_reducible assumption) | assumption)
                  have q128 : t123 < (l0.length : Int) := of_decide_eq_true (by first | (with_reducible assumption) | assumption)
                  obtain ⟨ad128, e128, hx128_0, hx128_1⟩ := at_T30 HR0.out t123 p128 q128
                  have hw128_1 := hx128_1
                  have hw128_0 := hx128_0
                  cases e128
                  replace hx128_0 := (HB.out.cell (World.block_lt_of_cell? w _ hx128_0)).trans hx128_0
                  replace hx128_1 := (HB.out.cell (World.block_lt_of_cell? w _ hx128_1)).trans hx128_1
                  replace p128 := eq_true p128
                  replace q128 := eq_true q128
                  have p129 : 0 ≤ (t127 : Int) := of_decide_eq_true (by first | (with_reducible assumption) | assumption)
                  have q129 : t127 < (l1.length : Int) := of_decide_eq_true (by first | (with_reducible assumption) | assumption)
                  obtain ⟨ad129, e129, hx129_0, hx129_1⟩ := at_T30 HR1.out t127 p129 q129
                  have hw129_1 := hx129_1
                  have hw129_0 := hx129_0
                  cases e129
                  replace hx129_0 := (HB.out.cell (World.block_lt_of_cell? w _ hx129_0)).trans hx129_0
                  replace hx129_1 := (HB.out.cell (World.block_lt_of_cell? w _ hx129_1)).trans hx129_1
                  replace p129 := eq_true p129
                  replace q129 := eq_true q129
                  refine start_ (n := 13) (S := fun w' => w'.cell? (ad128.add ((t123).toNat * 2)) = some (.int .i64 ((rd_T30 l0 t123).f0)) ∧ w'.cell? ⟨(ad128.add ((t123).toNat * 2)).block, (ad128.add ((t123).toNat * 2)).off + 1, none⟩ = some (.int .i64 ((rd_T30 l0 t123).f1)) ∧ w'.cell? (ad129.add ((t127).toNat * 2)) = some (.int .i64 ((rd_T30 l1 t127).f0)) ∧ w'.cell? ⟨(ad129.add ((t127).toNat * 2)).block, (ad129.add ((t127).toNat * 2)).off + 1, none⟩ = some (.int .i64 ((rd_T30 l1 t127).f1))) (ds := []) #[false, false, false, false, false, false, false, false, false, false, false, false, false] (by kernel_rfl) rfl rfl ⟨((HB.out.cell (World.block_lt_of_cell? w _ hw128_0)).trans hw128_0), ((HB.out.cell (World.block_lt_of_cell? w _ hw128_1)).trans hw128_1), ((HB.out.cell (World.block_lt_of_cell? w _ hw129_0)).trans hw129_0), ((HB.out.cell (World.block_lt_of_cell? w _ hw129_1)).trans hw129_1)⟩ (fun hHeld => ?_); refine with_tabW tidepolelaw07_PairsMerge.tab14 tidepolelaw07_PairsMerge.bits14 (fun HT_ HW_ => ?_)
                  generalize wc.drew = w53 at HO_5 HO_40 BK119 HB hx128_0 hx128_1 hx129_0 hx129_1 hHeld ⊢
                  refine pure_ (i := 0) (N := some 63) (v := ?_) (a' := ?_) #[true, false, false, false, false, false, false, false, false, false, false, false, false] rfl rfl (any_of HT_.out (by kernel_rfl)) (fun _ _ _ h => h) (Or.inl ⟨by rfl, ?_⟩) ?_ ?_
                  rotate_left
                  ·intro w'
                   go_simp
                   with_reducible rfl
                  rotate_left
                  ·simp only [Act.put, List.setIfInBounds_toArray, List.set_cons_zero, List.set_cons_succ, i64_w, i32_w]
                   rfl
                  refine pure_ (i := 1) (N := some 64) (v := ?_) (a' := ?_) #[true, true, false, false, false, false, false, false, false, false, false, false, false] rfl rfl (any_of HT_.out (by kernel_rfl)) (fun _ _ _ h => h) (Or.inl ⟨by rfl, ?_⟩) ?_ ?_
                  rotate_left
                  ·intro w'
                   go_simp
                   with_reducible rfl
                  rotate_left
                  ·simp only [Act.put, List.setIfInBounds_toArray, List.set_cons_zero, List.set_cons_succ, i64_w, i32_w]
                   rfl
                  refine pure_ (i := 2) (N := some 65) (v := ?_) (a' := ?_) #[true, true, true, false, false, false, false, false, false, false, false, false, false] rfl rfl (any_of HT_.out (by kernel_rfl)) (fun _ _ _ h => h) (Or.inl ⟨by rfl, ?_⟩) ?_ ?_
                  rotate_left
                  ·intro w'
                   go_simp
                   with_reducible rfl
                  rotate_left
                  ·simp only [Act.put, List.setIfInBounds_toArray, List.set_cons_zero, List.set_cons_succ, i64_w, i32_w]
                   rfl
                  refine pure_ (i := 3) (N := some 66) (v := ?_) (a' := ?_) #[true, true, true, true, false, false, false, false, false, false, false, false, false] rfl rfl (any_of HT_.out (by kernel_rfl)) (fun _ _ _ h => h) (Or.inl ⟨by rfl, ?_⟩) ?_ ?_
                  rotate_left
                  ·intro w'
                   go_simp
                   with_reducible rfl
                  rotate_left
                  ·simp only [Act.put, List.setIfInBounds_toArray, List.set_cons_zero, List.set_cons_succ, i64_w, i32_w]
                   rfl
                  refine pure_ (i := 6) (N := some 69) (v := ?_) (a' := ?_) #[true, true, true, true, false, false, true, false, false, false, false, false, false] rfl rfl (any_of HT_.out (by kernel_rfl)) (fun _ _ _ h => h) (Or.inl ⟨by rfl, ?_⟩) ?_ ?_
                  rotate_left
                  ·intro w'
                   go_simp
                   with_reducible rfl
                  rotate_left
                  ·simp only [Act.put, List.setIfInBounds_toArray, List.set_cons_zero, List.set_cons_succ, i64_w, i32_w]
                   rfl
                  refine pure_ (i := 7) (N := some 70) (v := ?_) (a' := ?_) #[true, true, true, true, false, false, true, true, false, false, false, false, false] rfl rfl (any_of HT_.out (by kernel_rfl)) (fun _ _ _ h => h) (Or.inl ⟨by rfl, ?_⟩) ?_ ?_
                  rotate_left
                  ·intro w'
                   go_simp
                   with_reducible rfl
                  rotate_left
                  ·simp only [Act.put, List.setIfInBounds_toArray, List.set_cons_zero, List.set_cons_succ, i64_w, i32_w]
                   rfl
                  refine pure_ (i := 8) (N := some 71) (v := ?_) (a' := ?_) #[true, true, true, true, false, false, true, true, true, false, false, false, false] rfl rfl (any_of HT_.out (by kernel_rfl)) (fun _ _ _ h => h) (Or.inl ⟨by rfl, ?_⟩) ?_ ?_
                  rotate_left
                  ·intro w'
                   go_simp
                   with_reducible rfl
                  rotate_left
                  ·simp only [Act.put, List.setIfInBounds_toArray, List.set_cons_zero, List.set_cons_succ, i64_w, i32_w]
                   rfl
                  refine pure_ (i := 9) (N := some 72) (v := ?_) (a' := ?_) #[true, true, true, true, false, false, true, true, true, true, false, false, false] rfl rfl (any_of HT_.out (by kernel_rfl)) (fun _ _ _ h => h) (Or.inl ⟨by rfl, ?_⟩) ?_ ?_
                  rotate_left
                  ·intro w'
                   go_simp
                   with_reducible rfl
                  rotate_left
                  ·simp only [Act.put, List.setIfInBounds_toArray, List.set_cons_zero, List.set_cons_succ, i64_w, i32_w]
                   rfl
                  refine take_ (i := 4) (N := some 67) (v := ?_) (a' := ?_) #[true, true, true, true, true, false, true, true, true, true, false, false, false] rfl rfl (take_ofW HT_.out HW_.out (by kernel_rfl)) (fun _ _ _ h => h) (Or.inl ⟨by rfl, ?_⟩) hHeld ?_ ?_
                  rotate_left
                  ·rintro w' ⟨s0, s1, s2, s3⟩
                   go_simp
                   with_reducible rfl
                  rotate_left
                  ·simp only [Act.put, List.setIfInBounds_toArray, List.set_cons_zero, List.set_cons_succ, i64_w, i32_w]
                   rfl
                  refine pure_ (i := 5) (N := some 68) (v := ?_) (a' := ?_) #[true, true, true, true, true, true, true, true, true, true, false, false, false] rfl rfl (any_of HT_.out (by kernel_rfl)) (fun _ _ _ h => h) (Or.inl ⟨by rfl, ?_⟩) ?_ ?_
                  rotate_left
                  ·intro w'
                   go_simp
                   with_reducible rfl
                  rotate_left
                  ·simp only [Act.put, List.setIfInBounds_toArray, List.set_cons_zero, List.set_cons_succ, i64_w, i32_w]
                   rfl
                  refine take_ (i := 10) (N := some 73) (v := ?_) (a' := ?_) #[true, true, true, true, true, true, true, true, true, true, true, false, false] rfl rfl (take_ofW HT_.out HW_.out (by kernel_rfl)) (fun _ _ _ h => h) (Or.inl ⟨by rfl, ?_⟩) hHeld ?_ ?_
                  rotate_left
                  ·rintro w' ⟨s0, s1, s2, s3⟩
                   go_simp
                   with_reducible rfl
                  rotate_left
                  ·simp only [Act.put, List.setIfInBounds_toArray, List.set_cons_zero, List.set_cons_succ, i64_w, i32_w]
                   rfl
                  refine pure_ (i := 11) (N := some 74) (v := ?_) (a' := ?_) #[true, true, true, true, true, true, true, true, true, true, true, true, false] rfl rfl (any_of HT_.out (by kernel_rfl)) (fun _ _ _ h => h) (Or.inl ⟨by rfl, ?_⟩) ?_ ?_
                  rotate_left
                  ·intro w'
                   go_simp
                   with_reducible rfl
                  rotate_left
                  ·simp only [Act.put, List.setIfInBounds_toArray, List.set_cons_zero, List.set_cons_succ, i64_w, i32_w]
                   rfl
                  refine pure_ (i := 12) (N := some 11) (v := ?_) (a' := ?_) #[true, true, true, true, true, true, true, true, true, true, true, true, true] rfl rfl (any_of HT_.out (by kernel_rfl)) (fun _ _ _ h => h) (Or.inl ⟨by rfl, ?_⟩) ?_ ?_
                  rotate_left
                  ·intro w'
                   go_simp
                   with_reducible rfl
                  rotate_left
                  ·simp only [Act.put, List.setIfInBounds_toArray, List.set_cons_zero, List.set_cons_succ, i64_w, i32_w]
                   rfl
                  refine done_ (done_of HT_.out (by kernel_rfl)) ?_
                  have hcz54_0 : w53.cell? ⟨gb119, 0, none⟩ = some (.int .i64 ((rd_T30 t110 x42_2).f0)) := (blk_cell BK119.out 0).trans rfl
                  have hcz54_1 : w53.cell? ⟨gb119, 1, none⟩ = some (.int .i64 ((rd_T30 t110 x42_2).f1)) := (blk_cell BK119.out 1).trans rfl
                  have hfz54_0 := blk_frozen BK119.out 0
                  have hfz54_1 := blk_frozen BK119.out 1
                  try go_wp2
                  go_ret
                  exact ⟨by first | rfl | (simp [errW_none, errW_some] <;> rfl) | (simp [*, errW_none, errW_some] <;> rfl), by repeat (first | (with_reducible first | exact HB.out | apply below_alloc | apply pw_below_drewN | apply below_drew1 | refine below_set ?_ GE119.out) | exact HB.out)⟩
                ·rw [if_neg c49] at H
                 exact absurd H (by simp)
               ·rw [if_neg c48] at H
                exact absurd H (by simp)
              ·rw [if_neg c47] at H
               exact absurd H (by simp)
             ·rw [if_neg c46] at H
              exact absurd H (by simp)
            ·replace c45 := Bool.eq_false_iff.mpr c45
             subst c45
             have H1 : (if t123 ≥ 0 then (if 0 ≤ t123 then (if t123 < (l0.length : Int) then (if ((rd_T30 t110 x42_2).f1) = ((rd_T30 l0 t123).f1) then (tidepolelaw07_PairsMerge.l0 kj34 l0 l1 t110 x6_2 t110 (t110.length : Int) (wrap64 (x42_2 + 1))) else (some false)) else (none)) else (none)) else (if t127 ≥ 0 then (if 0 ≤ t127 then (if t127 < (l1.length : Int) then (if ((rd_T30 t110 x42_2).f1) = ((rd_T30 l1 t127).f1) then (tidepolelaw07_PairsMerge.l0 kj34 l0 l1 t110 x6_2 t110 (t110.length : Int) (wrap64 (x42_2 + 1))) else (some false)) else (none)) else (none)) else (some false))) = some r := by rw [if_neg (show ¬ (false = true) by decide)] at H; exact H
             clear H
             have H := H1
             clear H1
             by_cases c55 : t123 ≥ 0
             ·rw [if_pos c55] at H
              have c55b0 : decide (0 ≤ t123) = true := decide_eq_true c55
              clear c55
              by_cases c56 : 0 ≤ t123
              ·rw [if_pos c56] at H
               have c56b0 : decide (0 ≤ t123) = true := decide_eq_true c56
               clear c56
               by_cases c57 : t123 < (l0.length : Int)
               ·rw [if_pos c57] at H
                have c57b0 : decide (t123 < (l0.length : Int)) = true := decide_eq_true c57
                clear c57
                by_cases c58 : ((rd_T30 t110 x42_2).f1) = ((rd_T30 l0 t123).f1)
                ·rw [if_pos c58] at H
                 have c58b0 : (((rd_T30 t110 x42_2).f1) == ((rd_T30 l0 t123).f1)) = true := beq_iff_eq.mpr c58
                 have c58b1 : (((rd_T30 t110 x42_2).f1) != ((rd_T30 l0 t123).f1)) = false := bne_eq_false_iff_eq.mpr c58
                 clear c58
                 have H' := Aside0.mk H
                 clear H
                 have p130 : 0 ≤ (t123 : Int) := of_decide_eq_true (by first | (with_reducible assumption) | assumption)
                 have q130 : t123 < (l0.length : Int) := of_decide_eq_true (by first | (with_reducible assumption) | assumption)
                 obtain ⟨ad130, e130, hx130_0, hx130_1⟩ := at_T30 HR0.out t123 p130 q130
                 cases e130
                 replace hx130_0 := (HB.out.cell (World.block_lt_of_cell? w _ hx130_0)).trans hx130_0
                 replace hx130_1 := (HB.out.cell (World.block_lt_of_cell? w _ hx130_1)).trans hx130_1
                 replace p130 := eq_true p130
                 replace q130 := eq_true q130
                 have hcz59_0 : wc.cell? ⟨gb119, 0, none⟩ = some (.int .i64 ((rd_T30 t110 x42_2).f0)) := (blk_cell BK119.out 0).trans rfl
                 have hcz59_1 : wc.cell? ⟨gb119, 1, none⟩ = some (.int .i64 ((rd_T30 t110 x42_2).f1)) := (blk_cell BK119.out 1).trans rfl
                 have hfz59_0 := blk_frozen BK119.out 0
                 have hfz59_1 := blk_frozen BK119.out 1
                 go_wp2
                 go_roundg kj34
                 case measure => have := HJ2.out; have := HK2.out; have := HJ34.out; omega
                 case rel => exact ⟨(x6_2), (wrap64 (x42_2 + 1)), (by first | rfl | (simp; done) | (simp [*]; done)), (by first | rfl | (simp; done) | (simp [*]; done)), H', ⟨by have := HJ2.out; have := HK2.out; have := HJ34.out; omega⟩, ⟨by (with_reducible repeat (first | apply Kd.R_alloc | apply Kd.R_drewN | apply Kd.R_drew)); exact Kd.R_mono HO_5.out (fun _ hk => trivial)⟩, ⟨by (with_reducible repeat (first | apply Kd.R_alloc | apply Kd.R_drewN | apply Kd.R_drew)); exact Kd.R_mono HO_40.out (fun _ hk => trivial)⟩, ⟨by repeat (first | (with_reducible first | exact HB.out | apply below_alloc | apply pw_below_drewN | apply below_drew1 | refine below_set ?_ GE119.out) | exact HB.out)⟩⟩
                ·rw [if_neg c58] at H
                 have c58b0 : (((rd_T30 t110 x42_2).f1) == ((rd_T30 l0 t123).f1)) = false := beq_eq_false_iff_ne.mpr c58
                 have c58b1 : (((rd_T30 t110 x42_2).f1) != ((rd_T30 l0 t123).f1)) = true := bne_iff_ne.mpr c58
                 obtain rfl := Option.some.inj H
                 have p130 : 0 ≤ (t123 : Int) := of_decide_eq_true (by first | (with_reducible assumption) | assumption)
                 have q130 : t123 < (l0.length : Int) := of_decide_eq_true (by first | (with_reducible assumption) | assumption)
                 obtain ⟨ad130, e130, hx130_0, hx130_1⟩ := at_T30 HR0.out t123 p130 q130
                 cases e130
                 replace hx130_0 := (HB.out.cell (World.block_lt_of_cell? w _ hx130_0)).trans hx130_0
                 replace hx130_1 := (HB.out.cell (World.block_lt_of_cell? w _ hx130_1)).trans hx130_1
                 replace p130 := eq_true p130
                 replace q130 := eq_true q130
                 have hcz60_0 : wc.cell? ⟨gb119, 0, none⟩ = some (.int .i64 ((rd_T30 t110 x42_2).f0)) := (blk_cell BK119.out 0).trans rfl
                 have hcz60_1 : wc.cell? ⟨gb119, 1, none⟩ = some (.int .i64 ((rd_T30 t110 x42_2).f1)) := (blk_cell BK119.out 1).trans rfl
                 have hfz60_0 := blk_frozen BK119.out 0
                 have hfz60_1 := blk_frozen BK119.out 1
                 go_wp2
                 go_ret
                 exact ⟨by first | rfl | (simp [errW_none, errW_some] <;> rfl) | (simp [*, errW_none, errW_some] <;> rfl), by repeat (first | (with_reducible first | exact HB.out | apply below_alloc | apply pw_below_drewN | apply below_drew1 | refine below_set ?_ GE119.out) | exact HB.out)⟩
               ·rw [if_neg c57] at H
                exact absurd H (by simp)
              ·rw [if_neg c56] at H
               exact absurd H (by simp)
             ·rw [if_neg c55] at H
              have c55b0 : decide (0 ≤ t123) = false := decide_eq_false c55
              clear c55
              by_cases c61 : t127 ≥ 0
              ·rw [if_pos c61] at H
               have c61b0 : decide (0 ≤ t127) = true := decide_eq_true c61
               clear c61
               by_cases c62 : 0 ≤ t127
               ·rw [if_pos c62] at H
                have c62b0 : decide (0 ≤ t127) = true := decide_eq_true c62
                clear c62
                by_cases c63 : t127 < (l1.length : Int)
                ·rw [if_pos c63] at H
                 have c63b0 : decide (t127 < (l1.length : Int)) = true := decide_eq_true c63
                 clear c63
                 by_cases c64 : ((rd_T30 t110 x42_2).f1) = ((rd_T30 l1 t127).f1)
                 ·rw [if_pos c64] at H
                  have c64b0 : (((rd_T30 t110 x42_2).f1) == ((rd_T30 l1 t127).f1)) = true := beq_iff_eq.mpr c64
                  have c64b1 : (((rd_T30 t110 x42_2).f1) != ((rd_T30 l1 t127).f1)) = false := bne_eq_false_iff_eq.mpr c64
                  clear c64
                  have H' := Aside0.mk H
                  clear H
                  have p131 : 0 ≤ (t127 : Int) := of_decide_eq_true (by first | (with_reducible assumption) | assumption)
                  have q131 : t127 < (l1.length : Int) := of_decide_eq_true (by first | (with_reducible assumption) | assumption)
                  obtain ⟨ad131, e131, hx131_0, hx131_1⟩ := at_T30 HR1.out t127 p131 q131
                  cases e131
                  replace hx131_0 := (HB.out.cell (World.block_lt_of_cell? w _ hx131_0)).trans hx131_0
                  replace hx131_1 := (HB.out.cell (World.block_lt_of_cell? w _ hx131_1)).trans hx131_1
                  replace p131 := eq_true p131
                  replace q131 := eq_true q131
                  have hcz65_0 : wc.cell? ⟨gb119, 0, none⟩ = some (.int .i64 ((rd_T30 t110 x42_2).f0)) := (blk_cell BK119.out 0).trans rfl
                  have hcz65_1 : wc.cell? ⟨gb119, 1, none⟩ = some (.int .i64 ((rd_T30 t110 x42_2).f1)) := (blk_cell BK119.out 1).trans rfl
                  have hfz65_0 := blk_frozen BK119.out 0
                  have hfz65_1 := blk_frozen BK119.out 1
                  go_wp2
                  go_roundg kj34
                  case measure => have := HJ2.out; have := HK2.out; have := HJ34.out; omega
                  case rel => exact ⟨(x6_2), (wrap64 (x42_2 + 1)), (by first | rfl | (simp; done) | (simp [*]; done)), (by first | rfl | (simp; done) | (simp [*]; done)), H', ⟨by have := HJ2.out; have := HK2.out; have := HJ34.out; omega⟩, ⟨by (with_reducible repeat (first | apply Kd.R_alloc | apply Kd.R_drewN | apply Kd.R_drew)); exact Kd.R_mono HO_5.out (fun _ hk => trivial)⟩, ⟨by (with_reducible repeat (first | apply Kd.R_alloc | apply Kd.R_drewN | apply Kd.R_drew)); exact Kd.R_mono HO_40.out (fun _ hk => trivial)⟩, ⟨by repeat (first | (with_reducible first | exact HB.out | apply below_alloc | apply pw_below_drewN | apply below_drew1 | refine below_set ?_ GE119.out) | exact HB.out)⟩⟩
                 ·rw [if_neg c64] at H
                  have c64b0 : (((rd_T30 t110 x42_2).f1) == ((rd_T30 l1 t127).f1)) = false := beq_eq_false_iff_ne.mpr c64
                  have c64b1 : (((rd_T30 t110 x42_2).f1) != ((rd_T30 l1 t127).f1)) = true := bne_iff_ne.mpr c64
                  obtain rfl := Option.some.inj H
                  have p131 : 0 ≤ (t127 : Int) := of_decide_eq_true (by first | (with_reducible assumption) | assumption)
                  have q131 : t127 < (l1.length : Int) := of_decide_eq_true (by first | (with_reducible assumption) | assumption)
                  obtain ⟨ad131, e131, hx131_0, hx131_1⟩ := at_T30 HR1.out t127 p131 q131
                  cases e131
                  replace hx131_0 := (HB.out.cell (World.block_lt_of_cell? w _ hx131_0)).trans hx131_0
                  replace hx131_1 := (HB.out.cell (World.block_lt_of_cell? w _ hx131_1)).trans hx131_1
                  replace p131 := eq_true p131
                  replace q131 := eq_true q131
                  have hcz66_0 : wc.cell? ⟨gb119, 0, none⟩ = some (.int .i64 ((rd_T30 t110 x42_2).f0)) := (blk_cell BK119.out 0).trans rfl
                  have hcz66_1 : wc.cell? ⟨gb119, 1, none⟩ = some (.int .i64 ((rd_T30 t110 x42_2).f1)) := (blk_cell BK119.out 1).trans rfl
                  have hfz66_0 := blk_frozen BK119.out 0
                  have hfz66_1 := blk_frozen BK119.out 1
                  go_wp2
                  go_ret
                  exact ⟨by first | rfl | (simp [errW_none, errW_some] <;> rfl) | (simp [*, errW_none, errW_some] <;> rfl), by repeat (first | (with_reducible first | exact HB.out | apply below_alloc | apply pw_below_drewN | apply below_drew1 | refine below_set ?_ GE119.out) | exact HB.out)⟩
                ·rw [if_neg c63] at H
                 exact absurd H (by simp)
               ·rw [if_neg c62] at H
                exact absurd H (by simp)
              ·rw [if_neg c61] at H
               have c61b0 : decide (0 ≤ t127) = false := decide_eq_false c61
               clear c61
               obtain rfl := Option.some.inj H
               go_wp2
               go_ret
               exact ⟨by first | rfl | (simp [errW_none, errW_some] <;> rfl) | (simp [*, errW_none, errW_some] <;> rfl), by repeat (first | (with_reducible first | exact HB.out | apply below_alloc | apply pw_below_drewN | apply below_drew1 | refine below_set ?_ GE119.out) | exact HB.out)⟩
         ·rw [if_neg c30] at H
          exact absurd H (by simp)
        ·rw [if_neg c29] at H
         exact absurd H (by simp)
       ·rw [if_neg c28] at H
        have c28b0 : decide (x42_2 < (t110.length : Int)) = false := decide_eq_false c28
        clear c28
        by_cases c67 : (wrap64 ((t110.length : Int) + x6_2)) = (wrap64 ((l0.length : Int) + (l1.length : Int)))
        ·rw [if_pos c67] at H
         have c67b0 : ((wrap64 ((t110.length : Int) + x6_2)) == (wrap64 ((l0.length : Int) + (l1.length : Int)))) = true := beq_iff_eq.mpr c67
         have c67b1 : ((wrap64 ((t110.length : Int) + x6_2)) != (wrap64 ((l0.length : Int) + (l1.length : Int)))) = false := bne_eq_false_iff_eq.mpr c67
         clear c67
         replace H := Option.bind_eq_some_iff.mp H
         obtain ⟨t117, A680, H⟩ := H
         replace H : (some t117) = some r := H
         have A68 := Aside0.mk A680
         clear A680
         obtain rfl := Option.some.inj H
         go_wp2_with (first | (go_at_call 17; (with_reducible refine (tidepolelaw07_awake.calls  t117 _ A68.out).mono ?_); rintro e w69 ⟨rfl, hb⟩; have n0_ := Aside0.mk (Kd.R_below (by (with_reducible repeat (first | apply Kd.R_alloc | apply Kd.R_drewN | apply Kd.R_drew)); exact HO_5.out) hb); have n1_ := Aside0.mk (Kd.R_below (by (with_reducible repeat (first | apply Kd.R_alloc | apply Kd.R_drewN | apply Kd.R_drew)); exact HO_40.out) hb); have n2_ := Aside0.mk (below_step (by repeat (first | (with_reducible first | exact HB.out | apply below_alloc | apply pw_below_drewN | apply below_drew1) | exact HB.out)) hb); clear HO_5; clear HO_40; clear HB; have HO_5 := n0_; have HO_40 := n1_; have HB := n2_; clear n0_ n1_ n2_; (try clear hb); (try clear hb2); (try clear hk); (try clear hi); clear A68))
         go_ret
         exact ⟨by first | rfl | (simp [errW_none, errW_some] <;> rfl) | (simp [*, errW_none, errW_some] <;> rfl), by repeat (first | (with_reducible first | exact HB.out | apply below_alloc | apply pw_below_drewN | apply below_drew1) | exact HB.out)⟩
        ·rw [if_neg c67] at H
         have c67b0 : ((wrap64 ((t110.length : Int) + x6_2)) == (wrap64 ((l0.length : Int) + (l1.length : Int)))) = false := beq_eq_false_iff_ne.mpr c67
         have c67b1 : ((wrap64 ((t110.length : Int) + x6_2)) != (wrap64 ((l0.length : Int) + (l1.length : Int)))) = true := bne_iff_ne.mpr c67
         obtain rfl := Option.some.inj H
         go_wp2
         go_ret
         exact ⟨by first | rfl | (simp [errW_none, errW_some] <;> rfl) | (simp [*, errW_none, errW_some] <;> rfl), by repeat (first | (with_reducible first | exact HB.out | apply below_alloc | apply pw_below_drewN | apply below_drew1) | exact HB.out)⟩
    ·replace c23 := Bool.eq_false_iff.mpr c23
     subst c23
     have H1 : (some false) = some r := by rw [if_neg (show ¬ (false = true) by decide)] at H; exact H
     clear H
     have H := H1
     clear H1
     obtain rfl := Option.some.inj H
     go_wp2_with (first | ((with_reducible refine gate_callee (f := 18) rfl ?_); refine goesL_ (some 35) rfl rfl Try.func18 (by kernel_rfl) rfl #[.slice A0 l0.length c0, .slice A1 l1.length c1, .func (.func 19) #[] #[]] rfl (by (try simp only [List.map_toArray, List.map_cons, List.map_nil]); first | done | rfl | (simp only [List.length_drop, List.length_take]; rfl)) ?_; (with_reducible refine (pairs_Merge_int64.calls kj2 (fun k_ => k_ < w.heap.size) _ _ l0 (fun k_ => k_ < w.heap.size) _ _ l1 t110 _ ?side1 ?side2 A20.out).mono ?_); (case side1 => exact Kd.V_mk HC0.out (Kd.F_below (Kd.C_F k30_heap HR0.out) (by repeat (first | (with_reducible first | exact HB.out | apply below_alloc | apply pw_below_drewN | apply below_drew1) | exact HB.out)))); (case side2 => exact Kd.V_mk HC1.out (Kd.F_below (Kd.C_F k30_heap HR1.out) (by repeat (first | (with_reducible first | exact HB.out | apply below_alloc | apply pw_below_drewN | apply below_drew1) | exact HB.out)))); rintro e w70 ⟨v111, rfl, ho0, hb⟩; refine ⟨_, rfl, ?_⟩; have n0_ := Aside0.mk (Kd.R_lower (Kd.R_mono (ok' := fun k_ => True) ho0 (fun _ hk_ => trivial)) (below_size (by repeat (first | (with_reducible first | exact HB.out | apply below_alloc | apply pw_below_drewN | apply below_drew1) | exact HB.out)))); have n1_ := Aside0.mk (below_step (by repeat (first | (with_reducible first | exact HB.out | apply below_alloc | apply pw_below_drewN | apply below_drew1) | exact HB.out)) hb); clear HB; have HO112 := n0_; have HB := n1_; clear n0_ n1_; (try clear hb); (try clear hb2); (try clear hk); (try clear hi); (try clear ho0); clear A20; obtain ⟨Ao71, co71, eo71⟩ := Kd.R_slice HO112.out; subst eo71) | ((with_reducible refine gate_callee (f := 16) rfl ?_); refine goesL_ (some 37) rfl rfl Try.func16 (by kernel_rfl) rfl #[.slice Ao71 t110.length co71] rfl (by (try simp only [List.map_toArray, List.map_cons, List.map_nil]); first | done | rfl | (simp only [List.length_drop, List.length_take]; rfl)) ?_; (with_reducible refine (tidepolelaw07_plain.calls kj2 _ _ t110 t113 _ ?side1 ?side2 A21.out).mono ?_); (case side1 => repeat (first | exact (Kd.R_reads' HO112.out).2.2 | (with_reducible refine Kd.C_alloc ?_ _) | (with_reducible refine Kd.C_drewN ?_ _) | (with_reducible refine Kd.C_drew ?_))); (case side2 => exact (Kd.R_reads' HO112.out).2.1); rintro e w72 ⟨v114, rfl, ho0, hb⟩; refine ⟨_, rfl, ?_⟩; have n0_ := Aside0.mk (Kd.R_below (by (with_reducible repeat (first | apply Kd.R_alloc | apply Kd.R_drewN | apply Kd.R_drew)); exact HO112.out) hb); have n1_ := Aside0.mk (Kd.R_lower ho0 (below_size (by repeat (first | (with_reducible first | exact HB.out | apply below_alloc | apply pw_below_drewN | apply below_drew1) | exact HB.out)))); have n2_ := Aside0.mk (below_step (by repeat (first | (with_reducible first | exact HB.out | apply below_alloc | apply pw_below_drewN | apply below_drew1) | exact HB.out)) hb); clear HO112; clear HB; have HO112 := n0_; have HO115 := n1_; have HB := n2_; clear n0_ n1_ n2_; (try clear hb); (try clear hb2); (try clear hk); (try clear hi); (try clear ho0); clear A21; obtain ⟨Ao73, co73, eo73⟩ := Kd.R_slice HO115.out; subst eo73) | ((with_reducible refine gate_callee (f := 15) rfl ?_); refine goesL_ (some 38) rfl rfl Try.func15 (by kernel_rfl) rfl #[.slice Ao73 t113.length co73] rfl (by (try simp only [List.map_toArray, List.map_cons, List.map_nil]); first | done | rfl | (simp only [List.length_drop, List.length_take]; rfl)) ?_; (with_reducible refine (tidepoleref07_Rising.calls kj2 _ _ t113 false _ ?side1 ?side2 A22.out).mono ?_); (case side1 => repeat (first | exact (Kd.R_reads' HO115.out).2.2 | (with_reducible refine Kd.C_alloc ?_ _) | (with_reducible refine Kd.C_drewN ?_ _) | (with_reducible refine Kd.C_drew ?_))); (case side2 => exact (Kd.R_reads' HO115.out).2.1); rintro e w' ⟨rfl, ⟨nd, rfl⟩⟩; refine ⟨_, rfl, ?_⟩; clear A22))
     go_ret
     exact ⟨by first | rfl | (simp [errW_none, errW_some] <;> rfl) | (simp [*, errW_none, errW_some] <;> rfl), by repeat (first | (with_reducible first | exact HB.out | apply below_alloc | apply pw_below_drewN | apply below_drew1) | exact HB.out)⟩
end Go.Proofs.Ytcabapilejagkaa.P
namespace Go.Proofs.Ytcabapilejagkaa.P
open Go.RowKit Go.Proofs.YtcabapilejagkaaW.PrintWords Go.Proofs.YtcabapilejagkaaW.PrintLast Go.Proofs.YtcabapilejagkaaW.PrintMore
attribute [local go_sem] max2_int min2_int max_two min_two max_three min_three max_four min_four
set_option linter.unusedVariables false
set_option linter.unusedSimpArgs false
def inI (k : IntKind) (n : Int) : Prop := (Lit.int k n).wf = true
def Opens {α : Type} (P : Program) (t : TypeId) (d : Kd α) (wf : α → Prop) : Prop := ∀ {H : Type} (enc : TypeId × Value → H) (w : World) (base : Nat) (sp : Nat → Bool) (held : Bool) (fuel : Nat) (cs : List Value) (x : DataW H × List MemPlace),
 DataW.trod enc P w base sp held fuel t cs = some x → ∃ y, d.K w y cs ∧ wf y
theorem opens_int {P : Program} {t : TypeId} {k : IntKind} (ht : P.underlying t = some (.int k)) : Opens P t (Kd.int k) (inI k) := by
 intro H enc w base sp held fuel cs x h
 obtain ⟨n, rfl, _, hw⟩ := DataW.trod_int ht h
 exact ⟨n, rfl, hw⟩
theorem opens_slice {α : Type} {P : Program} {t e : TypeId} {d : Kd α} {wf : α → Prop} (ht : P.underlying t = some (.slice e)) (hs : P.cellsOf e = d.sz) (ho : Opens P e d wf) : Opens P t (Kd.slice e d) (fun xs => ∀ x ∈ xs, wf x) := by
 intro H enc w base sp held fuel cs x h
 rcases Deep.open_slice ht h with ⟨rfl, _⟩ | ⟨a, len, cap, m, n, D, Pl, rfl, hb, hl, hm, hmm, _, hx⟩
 ·exact ⟨[], ⟨none, 0, rfl, Nat.le_refl _, Kd.C_nil _ _⟩, fun x hx => by cases hx⟩
 ·have hlm : len ≤ m := by rw [hmm]; split <;> omega
  unfold maxLen at hm
  rw [hs] at hx
  have each : ∀ i, i < len → ∃ y : α, (∃ cs', cs'.length = d.sz ∧ d.K w y cs' ∧ ∀ j u, cs'[j]? = some u → w.cell? (a.add (i * d.sz + j)) = some u) ∧ wf y := by
   intro i hi
   obtain ⟨cs', h1, h2⟩ := hx i (by omega)
   obtain ⟨y, hk, hw⟩ := ho _ _ _ _ _ _ _ _ h2
   obtain ⟨_, hlen, hcell⟩ := World.cells?_some h1
   refine ⟨y, ⟨cs', hlen, hk, fun j u hu => ?_⟩, hw⟩
   have hj : j < cs'.length := (List.getElem?_eq_some_iff.1 hu).1
   have := hcell j (by omega)
   rw [Deep.add_add] at this
   rw [this]; exact hu
  by_cases h0 : len = 0
  ·subst h0
   exact ⟨[], ⟨some a, cap, rfl, Nat.zero_le _, ⟨rfl, by simp, fun h => absurd h (Nat.lt_irrefl 0)⟩⟩, fun x hx => by cases hx⟩
  ·obtain ⟨y0, _⟩ := each 0 (by omega)
   have : Inhabited α := ⟨y0⟩
   obtain ⟨f, hf⟩ := Deep.choose_lt each
   refine ⟨(List.range len).map f, ⟨some a, cap, by simp, by simpa using hl, ⟨by simp, by simp; omega, fun _ => ⟨a, rfl, fun j p hj => ?_⟩⟩⟩, fun x hx => ?_⟩
   ·rw [List.getElem?_map] at hj
    obtain ⟨i, hi, rfl⟩ := Option.map_eq_some_iff.1 hj
    obtain ⟨hlt, rfl⟩ := List.getElem?_eq_some_iff.1 hi
    simp only [List.length_range] at hlt
    simp only [List.getElem_range]
    obtain ⟨cs', h1, h2, h3⟩ := (hf j hlt).1
    exact ⟨cs', h1, h2, h3⟩
   ·obtain ⟨i, hi, rfl⟩ := List.mem_map.1 hx
    exact (hf i (List.mem_range.1 hi)).2
def wf30 (x : S30) : Prop := (inI .i64) x.f0 ∧ (inI .i64) x.f1
set_option maxRecDepth 100000 in
theorem opens30 : Opens Try.prog 30 k30 wf30 := by
 intro H enc w base sp held fuel cs x h
 obtain ⟨xs, n, rfl, _, hl, hxl, hf⟩ := DataW.trod_struct Try.underlying30 h
 have hc : cs.length = 2 := hl.trans (by kernel_rfl)
 match cs, hc with
 | [c0, c1], _ =>
  have g0 : DataW.trod enc Try.prog w base sp held n 3 ((([c0, c1] : List Value).drop 0).take (Try.prog.cellsOf 3)) = xs[0]? := hf 0 _ rfl
  rw [show Try.prog.cellsOf 3 = 1 from by kernel_rfl] at g0
  have e0 : xs[0]? = some (xs[0]'(by rw [hxl]; decide)) := List.getElem?_eq_getElem _
  have g1 : DataW.trod enc Try.prog w base sp held n 2 ((([c0, c1] : List Value).drop 1).take (Try.prog.cellsOf 2)) = xs[1]? := hf 1 _ rfl
  rw [show Try.prog.cellsOf 2 = 1 from by kernel_rfl] at g1
  have e1 : xs[1]? = some (xs[1]'(by rw [hxl]; decide)) := List.getElem?_eq_getElem _
  obtain ⟨y0, hk0, hw0⟩ := (opens_int Try.underlying3) enc w base sp held n [c0] _ (g0.trans e0)
  injection (show [c0] = [Value.int .i64 y0] from hk0) with he0 _
  subst he0
  obtain ⟨y1, hk1, hw1⟩ := (opens_int Try.underlying2) enc w base sp held n [c1] _ (g1.trans e1)
  injection (show [c1] = [Value.int .i64 y1] from hk1) with he1 _
  subst he1
  exact ⟨⟨y0, y1⟩, k30_mk w ⟨y0, y1⟩ , ⟨hw0, hw1⟩⟩
end Go.Proofs.Ytcabapilejagkaa.P
namespace Go.Proofs.Ytcabapilejagkaa.P
def headSigns : List Char := List.map Char.ofNat [104, 97, 114, 110, 101, 115, 115, 32, 100, 51, 52, 53, 56, 100, 57, 102, 56, 57, 97, 99, 100, 102, 101, 100, 99, 48, 51, 57, 55, 51, 48, 97, 56, 53, 48, 57, 50, 54, 99, 52, 51, 52, 102, 100, 99, 55, 50, 57, 54, 57, 51, 97, 53, 48, 50, 52, 51, 102, 51, 98, 51, 53, 98, 51, 50, 102, 57, 50, 101, 50, 101, 100, 32, 99, 117, 116, 32, 97, 116, 32, 116, 105, 100, 101, 112, 111, 108, 101, 47, 116, 105, 100, 101, 112, 111, 108, 101, 108, 97, 119, 48, 55, 46, 80, 97, 105, 114, 115, 77, 101, 114, 103, 101, 32, 116, 105, 100, 101, 112, 111, 108, 101, 47, 116, 105, 100, 101, 112, 111, 108, 101, 108, 97, 119, 49, 49, 46, 82, 101, 115, 101, 116, 66, 111, 116, 104, 32, 116, 105, 100, 101, 112, 111, 108, 101, 47, 116, 105, 100, 101, 112, 111, 108, 101, 108, 97, 119, 48, 57, 46, 72, 105, 115, 116, 87, 97, 108, 107, 115, 32, 116, 105, 100, 101, 112, 111, 108, 101, 47, 116, 105, 100, 101, 112, 111, 108, 101, 108, 97, 119, 50, 57, 46, 82, 97, 110, 107, 65, 116, 32, 116, 105, 100, 101, 112, 111, 108, 101, 47, 116, 105, 100, 101, 112, 111, 108, 101, 108, 97, 119, 50, 57, 46, 82, 97, 110, 107, 66, 101, 108, 111, 119, 32, 116, 105, 100, 101, 112, 111, 108, 101, 47, 116, 105, 100, 101, 112, 111, 108, 101, 108, 97, 119, 50, 57, 46, 82, 97, 110, 107, 70, 105, 114, 115, 116, 32, 116, 105, 100, 101, 112, 111, 108, 101, 47, 116, 105, 100, 101, 112, 111, 108, 101, 108, 97, 119, 50, 57, 46, 82, 97, 110, 107, 82, 105, 115, 101, 115, 32, 116, 105, 100, 101, 112, 111, 108, 101, 47, 116, 105, 100, 101, 112, 111, 108, 101, 108, 97, 119, 50, 57, 46, 82, 97, 110, 107, 80, 97, 114, 116, 115, 32, 116, 105, 100, 101, 112, 111, 108, 101, 47, 116, 105, 100, 101, 112, 111, 108, 101, 108, 97, 119, 50, 57, 46, 82, 97, 110, 107, 81, 117, 97, 110, 116, 105, 108, 101, 115, 32, 116, 105, 100, 101, 112, 111, 108, 101, 47, 116, 105, 100, 101, 112, 111, 108, 101, 108, 97, 119, 49, 48, 46, 70, 104, 105, 115, 116, 70, 108, 111, 97, 116, 115, 32, 116, 105, 100, 101, 112, 111, 108, 101, 47, 116, 105, 100, 101, 112, 111, 108, 101, 108, 97, 119, 49, 48, 46, 70, 104, 105, 115, 116, 66, 97, 99, 107, 32, 116, 105, 100, 101, 112, 111, 108, 101, 47, 116, 105, 100, 101, 112, 111, 108, 101, 108, 97, 119, 49, 48, 46, 70, 104, 105, 115, 116, 70, 114, 111, 109]
theorem head_is : Try.prog.initOrder = String.ofList headSigns := by kernel_rfl
theorem head_signs : Try.prog.initOrder.toList = headSigns := by rw [head_is]; exact String.toList_ofList
theorem head_first : (behindMainWord (wordsSigns headSigns)).head? = some "cut".toList := by kernel_rfl
theorem head_words : ∃ r, behindMainWord (wordsSigns headSigns) = "cut".toList :: r := by have h := head_first; cases h2 : behindMainWord (wordsSigns headSigns) with | nil => rw [h2] at h; cases h | cons c r => rw [h2] at h; injection h with h; exact ⟨r, by rw [h]⟩
theorem strip_cut (r : List (List Char)) : stripLifts liftWords ("cut".toList :: r) = ([], "cut".toList :: r) := by kernel_rfl
theorem head_lifts : Try.prog.headLifts = [] := by obtain ⟨r, hr⟩ := head_words; unfold Program.headLifts; rw [head_signs, hr, strip_cut]; kernel_rfl
theorem head_doorFits : Try.prog.doorFits [] = true := by kernel_rfl
theorem head_laysLater : Try.prog.laysLater = false := by kernel_rfl
theorem head_bearsReflect : Try.prog.bearsReflect = false := by kernel_rfl
theorem mayEnter_of {P : Program} {L : List Char} {r : List (List Char)} (h1 : P.initOrder.toList = L) (h2 : behindMainWord (wordsSigns L) = "cut".toList :: r) (h3 : P.doorFits [] = true) (h4 : P.laysLater = false) (h5 : P.bearsReflect = false) : P.mayEnter = true := by unfold Program.mayEnter; rw [h1, h2]; simp only [strip_cut, h3, h4, h5]; kernel_rfl
theorem head_mayEnter : Try.prog.mayEnter = true := by obtain ⟨r, hr⟩ := head_words; exact mayEnter_of head_signs hr head_doorFits head_laysLater head_bearsReflect
theorem head_liftsFinal : Try.prog.liftsFinal = false := by obtain ⟨r, hr⟩ := head_words; unfold Program.liftsFinal; rw [head_signs, head_lifts, hr]; kernel_rfl
theorem make_of {P : Program} {L : List Char} {r : List (List Char)} (h1 : P.initOrder.toList = L) (h2 : behindMainWord (wordsSigns L) = "cut".toList :: r) : P.make = some .cut := by unfold Program.make; rw [h1, h2]; kernel_rfl
theorem head_make : Try.prog.make = some .cut := by obtain ⟨r, hr⟩ := head_words; exact make_of head_signs hr
theorem head_laidOut : laidOutB Try.prog = true := by kernel_rfl
theorem head_mapsRowed : mapsRowed Try.prog = true := by kernel_rfl
theorem head_stops : (Try.prog.stops == []) = true := by kernel_rfl
theorem head_stopKnobs : (Try.prog.stopKnobs == []) = true := by kernel_rfl
theorem head_plainKeys : Try.prog.plainKeys = true := by kernel_rfl
theorem head_stopsHeard : Try.prog.stopsHeard = true := by kernel_rfl
end Go.Proofs.Ytcabapilejagkaa.P
namespace Go.Proofs.Ytcabapilejagkaa.P
set_option linter.unusedVariables false
set_option linter.unusedSimpArgs false
section
variable {α : Type} (key val : α → Int)
def Ups (l : List α) : Prop := l.Pairwise (fun a b => key a < key b)
variable {key val}
theorem Ups.nil : Ups key ([] : List α) := List.Pairwise.nil
theorem Ups.tail {x : α} {l : List α} (h : Ups key (x :: l)) : Ups key l := (List.pairwise_cons.1 h).2
theorem Ups.head {x : α} {l : List α} (h : Ups key (x :: l)) : ∀ y ∈ l, key x < key y := (List.pairwise_cons.1 h).1
theorem Ups.filter {l : List α} (p : α → Bool) (h : Ups key l) : Ups key (l.filter p) := List.Pairwise.filter p h
theorem Ups.inj {l : List α} (hu : Ups key l) {x y : α} (hx : x ∈ l) (hy : y ∈ l) (h : key x = key y) : x = y := by
  induction l with
  | nil => cases hx
  | cons z l ih =>
    rcases List.mem_cons.1 hx with e1 | hx1
    · rcases List.mem_cons.1 hy with e2 | hy1
      · rw [e1, e2]
      · have := hu.head y hy1; rw [e1] at h; omega
    · rcases List.mem_cons.1 hy with e2 | hy1
      · have := hu.head x hx1; rw [e2] at h; omega
      · exact ih hu.tail hx1 hy1
end
section
variable {β α ρ : Type}
end
section
variable {α : Type} {key val : α → Int}
end
section
variable {α : Type}
def mergeW (key : α → Int) (join : α → α → α) : List α → List α → List α
  | [], b => b
  | a, [] => a
  | x :: a, y :: b => if key x < key y then x :: mergeW key join a (y :: b) else if key y < key x then y :: mergeW key join (x :: a) b else join x y :: mergeW key join a b
  termination_by a b => a.length + b.length
variable {key : α → Int} {join : α → α → α}
theorem mergeW_nil_right (a : List α) : mergeW key join a [] = a := by cases a <;> simp [mergeW]
theorem mergeW_nil_left (b : List α) : mergeW key join [] b = b := by simp [mergeW]
theorem mergeW_cons (x y : α) (a b : List α) : mergeW key join (x :: a) (y :: b) = if key x < key y then x :: mergeW key join a (y :: b) else if key y < key x then y :: mergeW key join (x :: a) b else join x y :: mergeW key join a b := by
  conv => lhs; rw [mergeW]
theorem mergeW_keys (hj : ∀ x y, key x = key y → key (join x y) = key x) : ∀ (n : Nat) (a b : List α), a.length + b.length = n → ∀ z ∈ mergeW key join a b, (∃ x ∈ a, key x = key z) ∨ (∃ y ∈ b, key y = key z) := by
  intro n
  induction n using Nat.strongRecOn with
  | ind n ih =>
    intro a b hn z hz
    match a, b with
    | [], b => rw [mergeW_nil_left] at hz; exact .inr ⟨z, hz, rfl⟩
    | x :: a, [] => rw [mergeW_nil_right] at hz; exact .inl ⟨z, hz, rfl⟩
    | x :: a, y :: b =>
      rw [mergeW_cons] at hz
      simp only [List.length_cons] at hn
      have up : (∃ x' ∈ a, key x' = key z) → (∃ x' ∈ x :: a, key x' = key z) := fun ⟨w, hw, h⟩ => ⟨w, List.mem_cons_of_mem _ hw, h⟩
      have uq : (∃ x' ∈ b, key x' = key z) → (∃ x' ∈ y :: b, key x' = key z) := fun ⟨w, hw, h⟩ => ⟨w, List.mem_cons_of_mem _ hw, h⟩
      split at hz
      · rcases List.mem_cons.1 hz with e | hz
        · exact .inl ⟨x, List.mem_cons_self .., by rw [e]⟩
        · exact (ih _ (by simp; omega) a (y :: b) rfl z hz).imp up id
      · split at hz
        · rcases List.mem_cons.1 hz with e | hz
          · exact .inr ⟨y, List.mem_cons_self .., by rw [e]⟩
          · exact (ih _ (by simp; omega) (x :: a) b rfl z hz).imp id uq
        · rcases List.mem_cons.1 hz with e | hz
          · exact .inl ⟨x, List.mem_cons_self .., by rw [e, hj _ _ (by omega)]⟩
          · exact (ih _ (by omega) a b rfl z hz).imp up uq
theorem mergeW_ups (hj : ∀ x y, key x = key y → key (join x y) = key x) : ∀ (n : Nat) (a b : List α), a.length + b.length = n → Ups key a → Ups key b → Ups key (mergeW key join a b) := by
  intro n
  induction n using Nat.strongRecOn with
  | ind n ih =>
    intro a b hn ha hb
    match a, b with
    | [], b => rw [mergeW_nil_left]; exact hb
    | x :: a, [] => rw [mergeW_nil_right]; exact ha
    | x :: a, y :: b =>
      rw [mergeW_cons]
      simp only [List.length_cons] at hn
      split
      · rename_i c
        refine List.pairwise_cons.2 ⟨fun z hz => ?_, ih _ (by simp; omega) a (y :: b) rfl ha.tail hb⟩
        rcases mergeW_keys hj _ _ _ rfl z hz with ⟨w, hw, h⟩ | ⟨w, hw, h⟩
        · have := ha.head w hw; omega
        · rcases List.mem_cons.1 hw with e | hw
          · rw [← h, e]; exact c
          · have := hb.head w hw; omega
      · split
        · rename_i c1 c
          refine List.pairwise_cons.2 ⟨fun z hz => ?_, ih _ (by simp; omega) (x :: a) b rfl ha hb.tail⟩
          rcases mergeW_keys hj _ _ _ rfl z hz with ⟨w, hw, h⟩ | ⟨w, hw, h⟩
          · rcases List.mem_cons.1 hw with e | hw
            · rw [← h, e]; exact c
            · have := ha.head w hw; omega
          · have := hb.head w hw; omega
        · rename_i c1 c2
          have e : key x = key y := by omega
          refine List.pairwise_cons.2 ⟨fun z hz => ?_, ih _ (by omega) a b rfl ha.tail hb.tail⟩
          rw [hj _ _ e]
          rcases mergeW_keys hj _ _ _ rfl z hz with ⟨w, hw, h⟩ | ⟨w, hw, h⟩
          · have := ha.head w hw; omega
          · have := hb.head w hw; omega
end
end Go.Proofs.Ytcabapilejagkaa.P
namespace Go.Proofs.Ytcabapilejagkaa.P
open Go.RowKit Go.Proofs.YtcabapilejagkaaW.PrintWords Go.Proofs.YtcabapilejagkaaW.PrintLast Go.Proofs.YtcabapilejagkaaW.PrintMore
set_option linter.unusedVariables false
set_option linter.unusedSimpArgs false
theorem wrap_id {x : Int} (h0 : -9223372036854775808 ≤ x) (h1 : x ≤ 9223372036854775807) : wrap64 x = x := by unfold wrap64; omega
theorem wrap_succ {i : Nat} (h : i < 9223372036854775807) : wrap64 ((i : Int) + 1) = ((i + 1 : Nat) : Int) := by unfold wrap64; omega
theorem wrap_range (x : Int) : -9223372036854775808 ≤ wrap64 x ∧ wrap64 x ≤ 9223372036854775807 := by unfold wrap64; omega
theorem take_at {α : Type} {l : List α} {i : Nat} (h : i < l.length) : l.take (i + 1) = l.take i ++ [l[i]] := List.take_succ_eq_append_getElem h
def i64 (x : Int) : Prop := -9223372036854775808 ≤ x ∧ x ≤ 9223372036854775807
instance (x : Int) : Decidable (i64 x) := by unfold i64; exact inferInstance
theorem wrap_i64 (x : Int) : i64 (wrap64 x) := wrap_range x
end Go.Proofs.Ytcabapilejagkaa.P
namespace Go.Proofs.Ytcabapilejagkaa.P
open Go.RowKit Go.Shelf Go.Proofs.YtcabapilejagkaaW.PrintWords Go.Proofs.YtcabapilejagkaaW.PrintLast Go.Proofs.YtcabapilejagkaaW.PrintMore
set_option linter.unusedVariables false
set_option linter.unusedSimpArgs false
abbrev Pm := S30
abbrev Qm := S106
def toQ (x : Pm) : Qm := ⟨x.f0, x.f1⟩
theorem rdPm {l : List Pm} {i : Nat} (h : i < l.length) : rd_T30 l (i : Int) = l[i] := by unfold rd_T30; simp [List.getD, h]
theorem rdQm {l : List Qm} {i : Nat} (h : i < l.length) : rd_T106 l (i : Int) = l[i] := by unfold rd_T106; simp [List.getD, h]
def joinM (x y : Pm) : Pm := ⟨x.f0, wrap64 (wrap64 (3 * x.f1) + y.f1)⟩
abbrev mg (a b : List Pm) : List Pm := mergeW (fun p : Pm => p.f0) joinM a b
theorem mg_nil_left (b : List Pm) : mg [] b = b := mergeW_nil_left b
theorem mg_nil_right (a : List Pm) : mg a [] = a := mergeW_nil_right a
theorem mg_len : ∀ (a b : List Pm), (mg a b).length ≤ a.length + b.length
  | [], b => by rw [mg_nil_left]; simp
  | x :: a, [] => by rw [mg_nil_right]; simp
  | x :: a, y :: b => by
    have h1 := mg_len a (y :: b)
    have h2 := mg_len (x :: a) b
    have h3 := mg_len a b
    unfold mg at *
    rw [mergeW_cons]
    split
    · simp only [List.length_cons] at *; omega
    · split
      · simp only [List.length_cons] at *; omega
      · simp only [List.length_cons] at *; omega
  termination_by a b => a.length + b.length
theorem merge_l0 : ∀ (n : Nat) (a b out : List Pm) (k : Nat), a.length + b.length ≤ n → 2 * n + 2 < k → out.length + a.length + b.length < 8796093022208 → pairs_Merge_int64.l0 k a b out = some (out ++ mg a b) := by
  intro n
  induction n with
  | zero =>
    intro a b out k hn hk hl
    obtain ⟨k, rfl⟩ : ∃ m, k = m + 2 := ⟨k - 2, by omega⟩
    obtain rfl : a = [] := List.eq_nil_of_length_eq_zero (by omega)
    obtain rfl : b = [] := List.eq_nil_of_length_eq_zero (by omega)
    rw [pairs_Merge_int64.l0, if_neg (by simp), pairs_Merge_int64.j1, if_neg (by decide), if_pos (by simp at hl ⊢; omega)]
    simp only [Option.bind_some]
    rw [if_pos (by simp at hl ⊢; omega)]
    simp [mg, mergeW_nil_left]
  | succ n ih =>
    intro a b out k hn hk hl
    obtain ⟨k, rfl⟩ : ∃ m, k = m + 2 := ⟨k - 2, by omega⟩
    have hend : ∀ (a b : List Pm), out.length + a.length + b.length < 8796093022208 → (a = [] ∨ b = []) → pairs_Merge_int64.j1 (k + 1) a b out false = some (out ++ mg a b) := by
      intro a b hl h
      rw [pairs_Merge_int64.j1, if_neg (by decide), if_pos (by omega)]
      simp only [Option.bind_some]
      rw [if_pos (by rw [List.length_append]; omega)]
      rcases h with rfl | rfl
      · simp [mg, mergeW_nil_left]
      · simp [mg, mergeW_nil_right]
    match a, b with
    | [], b => rw [pairs_Merge_int64.l0, if_neg (by simp)]; exact hend _ _ hl (.inl rfl)
    | x :: a, [] => rw [pairs_Merge_int64.l0, if_pos (by simp <;> omega), decide_eq_false (by simp)]; exact hend _ _ hl (.inr rfl)
    | x :: a, y :: b =>
      simp only [List.length_cons] at hn hl
      rw [pairs_Merge_int64.l0, if_pos (by simp <;> omega), decide_eq_true (by simp <;> omega), pairs_Merge_int64.j1, if_pos rfl, if_pos (by simp <;> omega), if_pos (by simp <;> omega)]
      rw [show rd_T30 (x :: a) 0 = x from rfl, show rd_T30 (y :: b) 0 = y from rfl]
      unfold mg
      rw [mergeW_cons]
      by_cases c1 : x.f0 < y.f0
      · rw [if_pos c1, if_pos c1, if_pos (by omega), if_pos (by simp <;> omega)]
        rw [show (x :: a).drop 1 = a from rfl, ih a (y :: b) _ k (by simp <;> omega) (by omega) (by simp <;> omega)]
        simp [mg]
      · rw [if_neg c1, if_neg c1]
        by_cases c2 : x.f0 > y.f0
        · rw [if_pos c2, if_pos c2, if_pos (by omega), if_pos (by simp <;> omega)]
          rw [show (y :: b).drop 1 = b from rfl, ih (x :: a) b _ k (by simp <;> omega) (by omega) (by simp <;> omega)]
          simp [mg]
        · rw [if_neg c2, if_neg (by omega)]
          simp only [merge_join.f, Option.bind_some]
          rw [if_pos (by omega), if_pos (by simp <;> omega), if_pos (by simp <;> omega)]
          rw [show (x :: a).drop 1 = a from rfl, show (y :: b).drop 1 = b from rfl, ih a b _ k (by omega) (by omega) (by simp <;> omega)]
          simp [mg, joinM]
theorem plain07_eq (l : List Pm) (hm : l.length < 8796093022208) (k : Nat) (hk : l.length < k) : tidepolelaw07_plain.f k l = some (l.map toQ) := by
  unfold tidepolelaw07_plain.f
  have : ∀ (d k i : Nat), l.length - i = d → d < k → i ≤ l.length → tidepolelaw07_plain.l0 k ((l.take i).map toQ) l (l.length : Int) (i : Int) = some (l.map toQ) := by
    intro d
    induction d with
    | zero =>
      intro k i hd hk hi
      obtain ⟨k, rfl⟩ : ∃ m, k = m + 1 := ⟨k - 1, by omega⟩
      rw [tidepolelaw07_plain.l0, if_neg (by omega), List.take_of_length_le (by omega)]
    | succ d ih =>
      intro k i hd hk hi
      obtain ⟨k, rfl⟩ : ∃ m, k = m + 1 := ⟨k - 1, by omega⟩
      have hlt : i < l.length := by omega
      have hl1 : ((l.take i).map toQ).length = i := by simp; omega
      rw [tidepolelaw07_plain.l0, if_pos (by omega), if_pos (by omega), if_pos (by omega), hl1, rdPm hlt, if_pos (by omega), wrap_succ (by omega), ← ih k (i + 1) (by omega) (by omega) (by omega), take_at hlt]
      simp only [List.map_append, List.map_cons, List.map_nil]
      rfl
  exact this l.length k 0 (by omega) hk (by omega)
theorem rising07_spec (l : List Pm) (hm : l.length < 8796093022208) (k : Nat) (hk : l.length + 1 < k) : ∃ b : Bool, tidepoleref07_Rising.f k (l.map toQ) = some b ∧ (b = true ↔ Ups (fun p : Pm => p.f0) l) := by
  unfold tidepoleref07_Rising.f
  have hpre : ∀ i, (i ≤ 1 → Ups (fun p : Pm => p.f0) (l.take i)) := by
    intro i hi
    match i, l with
    | 0, _ => simp [Ups]
    | 1, [] => simp [Ups]
    | 1, x :: l => simp [Ups]
  have : ∀ (d k i : Nat), l.length - i = d → d < k → 1 ≤ i → i ≤ l.length + 1 → Ups (fun p : Pm => p.f0) (l.take i) → ∃ b : Bool, tidepoleref07_Rising.l0 k (l.map toQ) (i : Int) = some b ∧ (b = true ↔ Ups (fun p : Pm => p.f0) l) := by
    intro d
    induction d with
    | zero =>
      intro k i hd hk h1 hi hu
      obtain ⟨k, rfl⟩ : ∃ m, k = m + 1 := ⟨k - 1, by omega⟩
      rw [tidepoleref07_Rising.l0, if_neg (by simp <;> omega)]
      rw [List.take_of_length_le (by omega)] at hu
      exact ⟨true, rfl, fun _ => hu, fun _ => rfl⟩
    | succ d ih =>
      intro k i hd hk h1 hi hu
      obtain ⟨k, rfl⟩ : ∃ m, k = m + 1 := ⟨k - 1, by omega⟩
      have hlt : i < l.length := by omega
      have e1 : wrap64 ((i : Int) - 1) = ((i - 1 : Nat) : Int) := by rw [wrap_id (by omega) (by omega)]; omega
      rw [tidepoleref07_Rising.l0, e1, if_pos (by simp <;> omega), if_pos (by omega), if_pos (by omega), if_pos (by simp <;> omega), rdQm (by simp <;> omega), rdQm (by simp <;> omega), wrap_succ (by omega)]
      simp only [List.getElem_map, toQ]
      have hp : (l.take i).length = i := by simp; omega
      have hta : l.take (i + 1) = l.take i ++ [l[i]] := take_at hlt
      have hlast : l[i - 1] ∈ l.take i := by
        have : (l.take i)[i - 1]'(by omega) = l[i - 1] := List.getElem_take
        rw [← this]; exact List.getElem_mem _
      by_cases c : l[i].f0 ≤ l[i - 1].f0
      · rw [if_pos c]
        refine ⟨false, rfl, fun h => (by cases h), fun h => ?_⟩
        have h2 : Ups (fun p : Pm => p.f0) (l.take (i + 1)) := List.Pairwise.sublist (List.take_sublist _ _) h
        rw [hta] at h2
        have h3 : l[i - 1].f0 < l[i].f0 := (List.pairwise_append.1 h2).2.2 _ hlast l[i] (by simp)
        omega
      · rw [if_neg c]
        refine ih k (i + 1) (by omega) (by omega) (by omega) (by omega) ?_
        rw [hta]
        refine List.pairwise_append.2 ⟨hu, List.pairwise_singleton _ _, fun x hx y hy => ?_⟩
        obtain rfl := List.mem_singleton.1 hy
        -- x is at or ahead of the last one
        have hx' : x.f0 ≤ l[i - 1].f0 := by
          obtain ⟨j, hj, rfl⟩ := List.mem_iff_getElem.1 hx
          have ej : (l.take i)[j] = l[j] := List.getElem_take
          rw [ej]
          by_cases q : j = i - 1
          · subst q; exact Int.le_refl _
          · have h4 := List.pairwise_iff_getElem.1 hu j (i - 1) hj (by omega) (by omega)
            rw [ej, show (l.take i)[i - 1]'(by omega) = l[i - 1] from List.getElem_take] at h4
            have h5 : l[j].f0 < l[i - 1].f0 := h4
            omega
        show x.f0 < l[i].f0
        omega
  exact this (l.length - 1) k 1 (by omega) (by omega) (by omega) (by omega) (hpre 1 (Nat.le_refl _))
theorem find07_spec (l : List Pm) (p : Int) (hm : l.length < 8796093022208) (k : Nat) (hk : l.length < k) : ∃ r : Int, tidepoleref07_Find.f k (l.map toQ) p = some r ∧ ((∃ (i : Nat) (h : i < l.length), r = i ∧ l[i].f0 = p) ∨ (r = -1 ∧ ∀ x ∈ l, x.f0 ≠ p)) := by
  unfold tidepoleref07_Find.f
  have : ∀ (d k i : Nat), l.length - i = d → d < k → i ≤ l.length → (∀ x ∈ l.take i, x.f0 ≠ p) → ∃ r : Int, tidepoleref07_Find.l0 k (l.map toQ) p (i : Int) = some r ∧ ((∃ (i : Nat) (h : i < l.length), r = i ∧ l[i].f0 = p) ∨ (r = -1 ∧ ∀ x ∈ l, x.f0 ≠ p)) := by
    intro d
    induction d with
    | zero =>
      intro k i hd hk hi hn
      obtain ⟨k, rfl⟩ : ∃ m, k = m + 1 := ⟨k - 1, by omega⟩
      rw [tidepoleref07_Find.l0, if_neg (by simp <;> omega)]
      rw [List.take_of_length_le (by omega)] at hn
      exact ⟨-1, rfl, .inr ⟨rfl, hn⟩⟩
    | succ d ih =>
      intro k i hd hk hi hn
      obtain ⟨k, rfl⟩ : ∃ m, k = m + 1 := ⟨k - 1, by omega⟩
      have hlt : i < l.length := by omega
      rw [tidepoleref07_Find.l0, if_pos (by simp <;> omega), if_pos (by omega), rdQm (by simp <;> omega), wrap_succ (by omega)]
      simp only [List.getElem_map, toQ]
      by_cases c : l[i].f0 = p
      · rw [if_pos c]; exact ⟨i, rfl, .inl ⟨i, hlt, rfl, c⟩⟩
      · rw [if_neg c]
        refine ih k (i + 1) (by omega) (by omega) (by omega) (fun x hx => ?_)
        rw [take_at hlt] at hx
        rcases List.mem_append.1 hx with hx | hx
        · exact hn x hx
        · obtain rfl := List.mem_singleton.1 hx; exact c
  exact this l.length k 0 (by omega) hk (by omega) (fun x hx => by simp at hx)
end Go.Proofs.Ytcabapilejagkaa.P
namespace Go.Proofs.Ytcabapilejagkaa.P
open Go.RowKit Go.Shelf Go.Proofs.YtcabapilejagkaaW.PrintWords Go.Proofs.YtcabapilejagkaaW.PrintLast Go.Proofs.YtcabapilejagkaaW.PrintMore
set_option linter.unusedVariables false
set_option linter.unusedSimpArgs false
abbrev UpP (l : List Pm) : Prop := Ups (fun p : Pm => p.f0) l
theorem up_head {x : Pm} {l : List Pm} (h : UpP (x :: l)) : ∀ y ∈ l, x.f0 < y.f0 := (List.pairwise_cons.1 h).1
theorem up_tail {x : Pm} {l : List Pm} (h : UpP (x :: l)) : UpP l := (List.pairwise_cons.1 h).2
theorem mg_cons (x y : Pm) (a b : List Pm) : mg (x :: a) (y :: b) = if x.f0 < y.f0 then x :: mg a (y :: b) else if y.f0 < x.f0 then y :: mg (x :: a) b else joinM x y :: mg a b := mergeW_cons x y a b
theorem mg_up {a b : List Pm} (ha : UpP a) (hb : UpP b) : UpP (mg a b) := mergeW_ups (key := fun p : Pm => p.f0) (join := joinM) (fun x y h => rfl) _ a b rfl ha hb
theorem mg_key {a b : List Pm} {z : Pm} (h : z ∈ mg a b) : (∃ x ∈ a, x.f0 = z.f0) ∨ (∃ y ∈ b, y.f0 = z.f0) := mergeW_keys (key := fun p : Pm => p.f0) (join := joinM) (fun x y h => rfl) _ a b rfl z h
theorem mg_at : ∀ (a b : List Pm), UpP a → UpP b → ∀ z ∈ mg a b,
    (∀ x ∈ a, ∀ y ∈ b, x.f0 = z.f0 → y.f0 = z.f0 → z.f1 = wrap64 (wrap64 (3 * x.f1) + y.f1)) ∧
    (∀ x ∈ a, x.f0 = z.f0 → (∀ y ∈ b, y.f0 ≠ z.f0) → z.f1 = x.f1) ∧ (∀ y ∈ b, y.f0 = z.f0 → (∀ x ∈ a, x.f0 ≠ z.f0) → z.f1 = y.f1)
  | [], b, ha, hb, z, hz => by
    rw [mg_nil_left] at hz
    refine ⟨(fun x hx => by cases hx), (fun x hx => by cases hx), fun y hy e _ => ?_⟩
    rw [Ups.inj (key := fun p : Pm => p.f0) hb hy hz e]
  | x :: a, [], ha, hb, z, hz => by
    rw [mg_nil_right] at hz
    refine ⟨(fun x hx y hy => by cases hy), fun y hy e _ => ?_, (fun y hy => by cases hy)⟩
    rw [Ups.inj (key := fun p : Pm => p.f0) ha hy hz e]
  | x :: a, y :: b, ha, hb, z, hz => by
    have ha1 := up_head ha
    have hb1 := up_head hb
    rw [mg_cons] at hz
    by_cases c1 : x.f0 < y.f0
    · rw [if_pos c1] at hz
      rcases List.mem_cons.1 hz with rfl | hz
      · refine ⟨fun u hu v hv e1 e2 => ?_, fun u hu e _ => ?_, fun v hv e h => absurd rfl (h z (List.mem_cons_self ..))⟩
        · rcases List.mem_cons.1 hv with rfl | hv
          · omega
          · have := hb1 v hv; omega
        · rw [Ups.inj (key := fun p : Pm => p.f0) ha hu (List.mem_cons_self ..) e]
      · have hzx : x.f0 < z.f0 := by
          rcases mg_key hz with ⟨u, hu, e⟩ | ⟨v, hv, e⟩
          · have := ha1 u hu; omega
          · rcases List.mem_cons.1 hv with rfl | hv
            · omega
            · have := hb1 v hv; omega
        obtain ⟨i1, i2, i3⟩ := mg_at a (y :: b) (up_tail ha) hb z hz
        refine ⟨fun u hu v hv e1 e2 => ?_, fun u hu e h => ?_, fun v hv e h => i3 v hv e (fun u hu => h u (List.mem_cons_of_mem _ hu))⟩
        · rcases List.mem_cons.1 hu with rfl | hu
          · omega
          · exact i1 u hu v hv e1 e2
        · rcases List.mem_cons.1 hu with rfl | hu
          · omega
          · exact i2 u hu e h
    · rw [if_neg c1] at hz
      by_cases c2 : y.f0 < x.f0
      · rw [if_pos c2] at hz
        rcases List.mem_cons.1 hz with rfl | hz
        · refine ⟨fun u hu v hv e1 e2 => ?_, fun u hu e h => absurd rfl (h z (List.mem_cons_self ..)), fun v hv e _ => ?_⟩
          · rcases List.mem_cons.1 hu with rfl | hu
            · omega
            · have := ha1 u hu; omega
          · rw [Ups.inj (key := fun p : Pm => p.f0) hb hv (List.mem_cons_self ..) e]
        · have hzy : y.f0 < z.f0 := by
            rcases mg_key hz with ⟨u, hu, e⟩ | ⟨v, hv, e⟩
            · rcases List.mem_cons.1 hu with rfl | hu
              · omega
              · have := ha1 u hu; omega
            · have := hb1 v hv; omega
          obtain ⟨i1, i2, i3⟩ := mg_at (x :: a) b ha (up_tail hb) z hz
          refine ⟨fun u hu v hv e1 e2 => ?_, fun u hu e h => i2 u hu e (fun v hv => h v (List.mem_cons_of_mem _ hv)), fun v hv e h => ?_⟩
          · rcases List.mem_cons.1 hv with rfl | hv
            · omega
            · exact i1 u hu v hv e1 e2
          · rcases List.mem_cons.1 hv with rfl | hv
            · omega
            · exact i3 v hv e h
      · rw [if_neg c2] at hz
        rcases List.mem_cons.1 hz with rfl | hz
        · have hxy : x.f0 = y.f0 := by omega
          refine ⟨fun u hu v hv e1 e2 => ?_, fun u hu e h => absurd hxy.symm (h y (List.mem_cons_self ..)), fun v hv e h => absurd rfl (h x (List.mem_cons_self ..))⟩
          have e3 := Ups.inj (key := fun p : Pm => p.f0) ha hu (List.mem_cons_self ..) e1
          have e4 := Ups.inj (key := fun p : Pm => p.f0) hb hv (List.mem_cons_self ..) (e2.trans hxy)
          rw [e3, e4]; rfl
        · have hzx : x.f0 < z.f0 := by
            rcases mg_key hz with ⟨u, hu, e⟩ | ⟨v, hv, e⟩
            · have := ha1 u hu; omega
            · have := hb1 v hv; omega
          obtain ⟨i1, i2, i3⟩ := mg_at a b (up_tail ha) (up_tail hb) z hz
          refine ⟨fun u hu v hv e1 e2 => ?_, fun u hu e h => ?_, fun v hv e h => ?_⟩
          · rcases List.mem_cons.1 hu with rfl | hu
            · omega
            · rcases List.mem_cons.1 hv with rfl | hv
              · omega
              · exact i1 u hu v hv e1 e2
          · rcases List.mem_cons.1 hu with rfl | hu
            · omega
            · exact i2 u hu e (fun v hv => h v (List.mem_cons_of_mem _ hv))
          · rcases List.mem_cons.1 hv with rfl | hv
            · omega
            · exact i3 v hv e (fun u hu => h u (List.mem_cons_of_mem _ hu))
  termination_by a b => a.length + b.length
def inB (a b : List Pm) (z : Pm) : Bool := a.any (fun x => decide (x.f0 = z.f0)) && b.any (fun y => decide (y.f0 = z.f0))
theorem inB_cons_left {x : Pm} {a b : List Pm} {z : Pm} (h : x.f0 ≠ z.f0) : inB (x :: a) b z = inB a b z := by unfold inB; rw [List.any_cons, decide_eq_false h, Bool.false_or]
theorem inB_cons_right {y : Pm} {a b : List Pm} {z : Pm} (h : y.f0 ≠ z.f0) : inB a (y :: b) z = inB a b z := by unfold inB; rw [List.any_cons, decide_eq_false h, Bool.false_or]
theorem any_no {a : List Pm} {p : Int} (h : ∀ x ∈ a, x.f0 ≠ p) : a.any (fun x => decide (x.f0 = p)) = false := by
  rw [List.any_eq_false]; intro x hx; simpa using h x hx
theorem mg_count : ∀ (a b : List Pm), UpP a → UpP b → (mg a b).length + ((mg a b).filter (inB a b)).length = a.length + b.length
  | [], b, ha, hb => by
    rw [mg_nil_left, List.filter_eq_nil_iff.2 (fun z _ => by simp [inB])]; try simp
  | x :: a, [], ha, hb => by
    rw [mg_nil_right, List.filter_eq_nil_iff.2 (fun z _ => by simp [inB])]; try simp
  | x :: a, y :: b, ha, hb => by
    have ha1 := up_head ha
    have hb1 := up_head hb
    rw [mg_cons]
    by_cases c1 : x.f0 < y.f0
    · rw [if_pos c1]
      have ih := mg_count a (y :: b) (up_tail ha) hb
      have hx : inB (x :: a) (y :: b) x = false := by
        unfold inB
        rw [any_no (a := y :: b) (p := x.f0) (fun v hv => by
          rcases List.mem_cons.1 hv with rfl | hv
          · omega
          · have := hb1 v hv; omega), Bool.and_false]
      have hc : (mg a (y :: b)).filter (inB (x :: a) (y :: b)) = (mg a (y :: b)).filter (inB a (y :: b)) := List.filter_congr (fun z hz => inB_cons_left (by
        rcases mg_key hz with ⟨u, hu, e⟩ | ⟨v, hv, e⟩
        · have := ha1 u hu; omega
        · rcases List.mem_cons.1 hv with rfl | hv
          · omega
          · have := hb1 v hv; omega))
      rw [List.filter_cons, if_neg (by rw [hx]; decide), hc]
      simp only [List.length_cons] at ih ⊢
      omega
    · rw [if_neg c1]
      by_cases c2 : y.f0 < x.f0
      · rw [if_pos c2]
        have ih := mg_count (x :: a) b ha (up_tail hb)
        have hy : inB (x :: a) (y :: b) y = false := by
          unfold inB
          rw [any_no (a := x :: a) (p := y.f0) (fun v hv => by
            rcases List.mem_cons.1 hv with rfl | hv
            · omega
            · have := ha1 v hv; omega), Bool.false_and]
        have hc : (mg (x :: a) b).filter (inB (x :: a) (y :: b)) = (mg (x :: a) b).filter (inB (x :: a) b) := List.filter_congr (fun z hz => inB_cons_right (by
          rcases mg_key hz with ⟨u, hu, e⟩ | ⟨v, hv, e⟩
          · rcases List.mem_cons.1 hu with rfl | hu
            · omega
            · have := ha1 u hu; omega
          · have := hb1 v hv; omega))
        rw [List.filter_cons, if_neg (by rw [hy]; decide), hc]
        simp only [List.length_cons] at ih ⊢
        omega
      · rw [if_neg c2]
        have ih := mg_count a b (up_tail ha) (up_tail hb)
        have hxy : x.f0 = y.f0 := by omega
        have hj : inB (x :: a) (y :: b) (joinM x y) = true := by
          unfold inB
          rw [List.any_cons, List.any_cons, decide_eq_true (show x.f0 = (joinM x y).f0 from rfl), decide_eq_true (show y.f0 = (joinM x y).f0 from hxy.symm)]
          rfl
        have hc : (mg a b).filter (inB (x :: a) (y :: b)) = (mg a b).filter (inB a b) := List.filter_congr (fun z hz => by
          have hz1 : x.f0 < z.f0 := by
            rcases mg_key hz with ⟨u, hu, e⟩ | ⟨v, hv, e⟩
            · have := ha1 u hu; omega
            · have := hb1 v hv; omega
          rw [inB_cons_left (by omega), inB_cons_right (by omega)])
        rw [List.filter_cons, if_pos hj, hc]
        simp only [List.length_cons] at ih ⊢
        omega
  termination_by a b => a.length + b.length
theorem pairsMerge_l0 (a b : List Pm) (ha : UpP a) (hb : UpP b) (hla : a.length ≤ 200) (hlb : b.length ≤ 200) : ∀ (d k i : Nat), (mg a b).length - i = d → 2 * d + 1000 < k → i ≤ (mg a b).length →
    tidepolelaw07_PairsMerge.l0 k a b (mg a b) ((((mg a b).take i).filter (inB a b)).length : Int) (mg a b) ((mg a b).length : Int) (i : Int) = some true := by
  have hml := mg_len a b
  intro d
  induction d with
  | zero =>
    intro k i hd hk hi
    obtain ⟨k, rfl⟩ : ∃ m, k = m + 1 := ⟨k - 1, by omega⟩
    have hc := mg_count a b ha hb
    rw [tidepolelaw07_PairsMerge.l0, if_neg (by omega), List.take_of_length_le (by omega), wrap_id (by omega) (by omega), wrap_id (by omega) (by omega), if_pos (by omega)]
    simp [tidepolelaw07_awake.f]
  | succ d ih =>
    intro k i hd hk hi
    obtain ⟨k, rfl⟩ : ∃ m, k = m + 2 := ⟨k - 2, by omega⟩
    have hlt : i < (mg a b).length := by omega
    have hcl : (((mg a b).take i).filter (inB a b)).length ≤ 400 := Nat.le_trans (List.length_filter_le _ _) (by rw [List.length_take]; omega)
    have hrec := ih k (i + 1) (by omega) (by omega) (by omega)
    rw [take_at hlt, List.filter_append] at hrec
    have w1 := wrap_succ (i := i) (by omega)
    have w2 := wrap_succ (i := (((mg a b).take i).filter (inB a b)).length) (by omega)
    have hi0 : (i : Int) < ((mg a b).length : Int) := by omega
    have hi1 : (0 : Int) ≤ (i : Int) := by omega
    have hka : a.length < k + 1 := by omega
    have hkb : b.length < k + 1 := by omega
    obtain ⟨r1, e1, s1⟩ := find07_spec a (mg a b)[i].f0 (by omega) (k + 1) (by omega)
    obtain ⟨r2, e2, s2⟩ := find07_spec b (mg a b)[i].f0 (by omega) (k + 1) (by omega)
    obtain ⟨g1, g2, g3⟩ := mg_at a b ha hb (mg a b)[i] (List.getElem_mem hlt)
    have hkey := mg_key (List.getElem_mem hlt)
    rw [tidepolelaw07_PairsMerge.l0, if_pos hi0, if_pos hi1, if_pos hi0, plain07_eq a (by clear s1 s2 g1 g2 g3 hkey; omega) _ hka]
    simp only [Option.bind_some]
    rw [rdPm hlt, e1]
    simp only [Option.bind_some]
    rw [plain07_eq b (by clear s1 s2 g1 g2 g3 hkey; omega) _ hkb]
    simp only [Option.bind_some]
    rw [e2]
    simp only [Option.bind_some]
    generalize hz : (mg a b)[i] = z at *
    have hin : ∀ l : List Pm, ∀ (j : Nat) (h : j < l.length), l[j].f0 = z.f0 → l.any (fun x => decide (x.f0 = z.f0)) = true := fun l j h e => List.any_eq_true.2 ⟨l[j], List.getElem_mem h, decide_eq_true e⟩
    rcases s1 with ⟨j1, h1, rfl, q1⟩ | ⟨rfl, q1⟩
    · rw [if_pos (by omega)]
      rcases s2 with ⟨j2, h2, rfl, q2⟩ | ⟨rfl, q2⟩
      · have hb_ : inB a b z = true := by unfold inB; rw [hin a j1 h1 q1, hin b j2 h2 q2]; rfl
        rw [decide_eq_true (by omega), tidepolelaw07_PairsMerge.j2, if_pos rfl, if_pos (by omega), if_pos (by omega), if_pos (by omega), if_pos (by omega), rdPm h1, rdPm h2, if_pos (g1 _ (List.getElem_mem h1) _ (List.getElem_mem h2) q1 q2), w2, w1]
        rw [List.filter_cons, if_pos hb_, List.filter_nil, List.length_append] at hrec
        exact hrec
      · have hb_ : inB a b z = false := by unfold inB; rw [any_no q2, Bool.and_false]
        rw [decide_eq_false (by omega), tidepolelaw07_PairsMerge.j2, if_neg (by decide), if_pos (by omega), if_pos (by omega), if_pos (by omega), rdPm h1, if_pos (g2 _ (List.getElem_mem h1) q1 q2), w1]
        rw [List.filter_cons, if_neg (by rw [hb_]; decide), List.filter_nil, List.append_nil] at hrec
        exact hrec
    · have hb_ : inB a b z = false := by unfold inB; rw [any_no q1, Bool.false_and]
      rw [if_neg (by omega)]
      rcases s2 with ⟨j2, h2, rfl, q2⟩ | ⟨rfl, q2⟩
      · rw [tidepolelaw07_PairsMerge.j2, if_neg (by decide), if_neg (by omega), if_pos (by omega), if_pos (by omega), if_pos (by omega), rdPm h2, if_pos (g3 _ (List.getElem_mem h2) q2 q1), w1]
        rw [List.filter_cons, if_neg (by rw [hb_]; decide), List.filter_nil, List.append_nil] at hrec
        exact hrec
      · rcases hkey with ⟨u, hu, e⟩ | ⟨v, hv, e⟩
        · exact absurd e (q1 u hu)
        · exact absurd e (q2 v hv)
theorem pairsMerge_f (a b : List Pm) : tidepolelaw07_PairsMerge.f 10000 a b = some true := by
  unfold tidepolelaw07_PairsMerge.f
  have hj : tidepolelaw07_PairsMerge.j0 10000 a b true = some true := by
    rw [show (10000 : Nat) = 9999 + 1 from rfl, tidepolelaw07_PairsMerge.j0, if_pos rfl]; simp [tidepolelaw07_awake.f]
  by_cases c1 : (a.length : Int) > 200
  · rw [if_pos c1]; exact hj
  rw [if_neg c1]
  by_cases c2 : (b.length : Int) > 200
  · rw [if_pos c2]; exact hj
  rw [if_neg c2, plain07_eq a (by omega) _ (by omega)]
  simp only [Option.bind_some]
  obtain ⟨r1, e1, s1⟩ := rising07_spec a (by omega) 10000 (by omega)
  obtain ⟨r2, e2, s2⟩ := rising07_spec b (by omega) 10000 (by omega)
  rw [e1]
  simp only [Option.bind_some]
  cases r1 with
  | false => rw [if_neg (by decide)]; exact hj
  | true =>
    rw [if_pos rfl, plain07_eq b (by omega) _ (by omega)]
    simp only [Option.bind_some]
    rw [e2]
    simp only [Option.bind_some]
    cases r2 with
    | false => exact hj
    | true =>
      have ha := s1.1 rfl
      have hb := s2.1 rfl
      have hml := mg_len a b
      rw [show (!true) = false from rfl, show (10000 : Nat) = 9999 + 1 from rfl, tidepolelaw07_PairsMerge.j0, if_neg (by decide)]
      unfold pairs_Merge_int64.f
      rw [merge_l0 400 a b [] 9999 (by omega) (by omega) (by simp; omega), List.nil_append]
      simp only [Option.bind_some]
      rw [plain07_eq (mg a b) (by omega) _ (by omega)]
      simp only [Option.bind_some]
      obtain ⟨r3, e3, s3⟩ := rising07_spec (mg a b) (by omega) 9999 (by omega)
      rw [e3]
      simp only [Option.bind_some]
      rw [if_pos (s3.2 (mg_up ha hb))]
      exact pairsMerge_l0 a b ha hb (by omega) (by omega) (mg a b).length 9999 0 (by omega) (by omega) (by omega)
end Go.Proofs.Ytcabapilejagkaa.P
namespace Go.Proofs.Ytcabapilejagkaa.Pure
open Go.RowKit Go.Proofs.Ytcabapilejagkaa.P Go.Proofs.YtcabapilejagkaaW.PrintWords
theorem PairsMerge : ∀ (x0 x1 : List (S30)), (∀ x ∈ x0, wf30 x) → (∀ x ∈ x1, wf30 x) → ∃ k, tidepolelaw07_PairsMerge.f k x0 x1 = some true := fun x0 x1 _ _ => ⟨_, pairsMerge_f x0 x1⟩
end Go.Proofs.Ytcabapilejagkaa.Pure
namespace Go.Proofs.Ytcabapilejagkaa.pairsMerge
open Go.ChangeShapes Go.WideShapes Go.ChangeAt Go.RowKit Go.Proofs.Ytcabapilejagkaa.P Go.Proofs.YtcabapilejagkaaW.PrintWords
set_option linter.unusedVariables false
theorem own : ownKnob Try.prog.godebug = none := by kernel_rfl
theorem laidOut : laidOutB Try.prog = true := by kernel_rfl
set_option maxRecDepth 100000 in
set_option maxHeartbeats 4000000 in
theorem lifted (os : Os) (started : os.Started) (H : Type) (enc : TypeId × Value → H) :
    ReturnsInHanded {} Try.checked os 3 .any (Rows.pairsMergeSpec.pre6 enc Try.prog Try.f3 Rows.pairsMergeRow.domain false) (Rows.pairsMergeSpec.post enc Try.prog Try.f3 false true false false) := by
  refine returnsInHanded_of_change_sized (C := Try.checked) own started (by kernel_rfl) Try.func3
    (ChangeSpec.witness6 (enc := enc) (C := Try.checked) false ⟨#[], #[.slice none 0 0, .slice none 0 0], []⟩ 8 (by kernel_rfl) (by kernel_rfl) (by kernel_rfl) (by kernel_rfl)) ?_
  intro W base args ds gs before hval0 hW hcnd hsz0 _
  have hval : ∀ (j : Nat) t v, Try.f3.params[j]? = some t → args[j]? = some v → Value.okWide Try.prog W .any base t v := hval0
  have hW' := hW
  obtain ⟨p, q, hA0, hV, rfl, hfz, hnd⟩ := hW
  have hA : DataW.TrodAll enc Try.prog W 0 (fun _ => true) true Try.f3.params.toList args.toList ds p := hA0
  rw [Try.params3] at hA hval
  obtain ⟨v0, vs0, d0, ds0, p0, q0, hargs, rfl, rfl, h0, r0⟩ := trodAll_cons hA
  obtain ⟨v1, vs1, d1, ds1, p1, q1, rfl, rfl, rfl, h1, r1⟩ := trodAll_cons r0
  obtain ⟨rfl, rfl, rfl⟩ := trodAll_nil r1
  obtain rfl : args = #[v0, v1] := by cases args; simp_all
  obtain ⟨rfl, rfl⟩ := trodVars_none hV
  have k0 := h0
  have lt0 : ∀ x ∈ p0, x.block < W.heap.size := by obtain ⟨m, hm⟩ := k0; exact DataW.trod_lt m _ _ _ hm
  obtain ⟨fu0, hf0⟩ := h0
  obtain ⟨x0, hK0, w0⟩ := (opens_slice (d := k30) Try.underlying22 (by kernel_rfl) opens30) enc W 0 _ true fu0 _ _ hf0
  obtain ⟨va0, vl0, vc0, rfl⟩ := okWide_slice Try.underlying22 (hval 0 22 v0 rfl rfl)
  obtain ⟨A0, c0, he0, h0_l, hC0⟩ := hK0
  simp [Value.cells] at he0
  obtain ⟨rfl, rfl, rfl⟩ := he0
  have k1 := h1
  have lt1 : ∀ x ∈ p1, x.block < W.heap.size := by obtain ⟨m, hm⟩ := k1; exact DataW.trod_lt m _ _ _ hm
  obtain ⟨fu1, hf1⟩ := h1
  obtain ⟨x1, hK1, w1⟩ := (opens_slice (d := k30) Try.underlying22 (by kernel_rfl) opens30) enc W 0 _ true fu1 _ _ hf1
  obtain ⟨va1, vl1, vc1, rfl⟩ := okWide_slice Try.underlying22 (hval 1 22 v1 rfl rfl)
  obtain ⟨A1, c1, he1, h1_l, hC1⟩ := hK1
  simp [Value.cells] at he1
  obtain ⟨rfl, rfl, rfl⟩ := he1
  clear hA0 hval0 hsz0
  obtain ⟨k, hk⟩ := Pure.PairsMerge x0 x1 w0 w1
  refine (P.tidepolelaw07_PairsMerge.calls k va0 vc0 x0 va1 vc1 x1 true W hC0 h0_l hC1 h1_l hk).mono fun e W' ⟨he, bel⟩ => ?_
  subst he
  exact ⟨_, rfl, _, _, _, [], _, [], hW', trodAll_mk1 (shut_bool Try.underlying4 _), (trodAll_cons_mk (Below.trod laidOut (by kernel_rfl) (of_decide_eq_true (by kernel_rfl)) k0 bel lt0) (trodAll_cons_mk (Below.trod laidOut (by kernel_rfl) (of_decide_eq_true (by kernel_rfl)) k1 bel lt1) trodAll_mk0)), rfl, bel.frame _, fun h => by cases h⟩
theorem cf0 : (Rows.pairsMergeRow.wf (OpenSpec.ofChange Rows.pairsMergeSpec)) = true := by kernel_rfl
theorem cf1 : (laidOutB Try.prog) = true := P.head_laidOut
theorem cf2 : (mapsRowed Try.prog) = true := P.head_mapsRowed
theorem cf3 : (Try.f3.params.all (Try.prog.readableRec ·)) = true := by kernel_rfl
theorem cf4 : (namedTie Try.prog Rows.pairsMergeRow.named Rows.pairsMergeSpec.vars) = true := by kernel_rfl
theorem cf5 : ((Rows.pairsMergeRow.stops == [])) = true := by kernel_rfl
theorem cf6 : ((Try.prog.stops == [])) = true := P.head_stops
theorem cf7 : ((Rows.pairsMergeRow.knobs == [])) = true := by kernel_rfl
theorem cf8 : ((Try.prog.stopKnobs == [])) = true := P.head_stopKnobs
theorem cf9 : ((Rows.pairsMergeRow.inPlace == Try.prog.inPlace 3)) = true := by kernel_rfl
theorem cf10 : ((Rows.pairsMergeRow.unfollowed == Try.prog.unfollowed 3)) = true := by kernel_rfl
theorem cf11 : ((Rows.pairsMergeRow.recurses == Try.prog.recurses 3)) = true := by kernel_rfl
theorem cf12 : ((Rows.pairsMergeRow.named == Try.prog.varsNamed 3)) = true := by kernel_rfl
theorem cf13 : ((Rows.pairsMergeRow.maps == (Try.f3.params.toList ++ Rows.pairsMergeSpec.plain.varTypes Try.prog).any (Try.prog.mapsRec ·))) = true := by kernel_rfl
theorem cf14 : ((Rows.pairsMergeRow.ifaces == (Try.f3.params.toList ++ Rows.pairsMergeSpec.plain.varTypes Try.prog).any (Try.prog.ifacesRec ·))) = true := by kernel_rfl
theorem cf15 : ((Rows.pairsMergeRow.mapsOut == Try.prog.mapsAmong Try.f3.resultTypes.toList)) = true := by kernel_rfl
theorem cf16 : ((Rows.pairsMergeRow.loops == (Try.f3.params.toList ++ Rows.pairsMergeSpec.plain.varTypes Try.prog).any (Try.prog.loopsFrom ·))) = true := by kernel_rfl
theorem cf17 : ((Rows.pairsMergeRow.wideKeys == (Try.f3.params.toList ++ Rows.pairsMergeSpec.plain.varTypes Try.prog ++ Try.f3.resultTypes.toList).any (Try.prog.wideKeysFrom ·))) = true := by kernel_rfl
theorem cf18 : (Rows.pairsMergeSpec.vars.all (Try.prog.varReadable ·)) = true := by kernel_rfl
theorem cf19 : (Try.f3.resultTypes.all (fun t => Try.prog.readableRec t && decide (t < Try.prog.types.size))) = true := by kernel_rfl
theorem cf20 : ((Rows.pairsMergeRow.ifacesOut == Try.f3.resultTypes.toList.any (Try.prog.ifacesRec ·))) = true := by kernel_rfl
theorem cf21 : ((Rows.pairsMergeRow.loopsOut == Try.f3.resultTypes.toList.any (Try.prog.loopsFrom ·))) = true := by kernel_rfl
theorem cf22 : ((Rows.pairsMergeRow.plainKeys == Try.prog.plainKeys)) = true := by rw [P.head_plainKeys]; kernel_rfl
theorem cf23 : (Rows.pairsMergeRow.shortTexts.isNone) = true := by kernel_rfl
theorem cf24 : (Try.prog.stopsHeard) = true := P.head_stopsHeard
theorem cf25 : (Try.prog.mayEnter) = true := P.head_mayEnter
theorem cf26 : ((Rows.pairsMergeRow.lifted == Try.prog.liftsFinal)) = true := by rw [P.head_liftsFinal]; kernel_rfl
theorem cf27 : ((Try.prog.make == some Rows.pairsMergeRow.make)) = true := by rw [P.head_make]; kernel_rfl
theorem cf28 : ((Rows.pairsMergeRow.kinds == (if Rows.pairsMergeRow.domain.isEmpty then [] else Try.f3.params.toList.map fun t => match Try.prog.underlying t with | some (.int k) => some k | _ => none))) = true := by kernel_rfl
theorem cf29 : ((Rows.pairsMergeRow.pinned == Rows.pairsMergeRow.pinnedBy)) = true := by kernel_rfl
theorem cf30 : ((Rows.pairsMergeRow.veiled == (Try.f3.params.toList ++ Rows.pairsMergeSpec.plain.varTypes Try.prog ++ Try.f3.resultTypes.toList).any (Try.prog.veiledRec ·))) = true := by kernel_rfl
theorem cf31 : (Rows.pairsMergeRow.veiledFits Try.prog Try.f3.params.toList (Try.f3.params.toList ++ Rows.pairsMergeSpec.plain.varTypes Try.prog ++ Try.f3.resultTypes.toList)) = true := by kernel_rfl
theorem band_mk {a b : Bool} (h : a = true) (k : b = true) : (a && b) = true := by rw [h, k]; rfl
theorem closed : joinedFacts Try.prog 3 Try.f3 Rows.pairsMergeSpec Rows.pairsMergeRow = true := by unfold joinedFacts; exact (band_mk (band_mk (band_mk (band_mk (band_mk (band_mk (band_mk (band_mk (band_mk (band_mk (band_mk (band_mk (band_mk (band_mk (band_mk (band_mk (band_mk (band_mk (band_mk (band_mk (band_mk (band_mk (band_mk (band_mk (band_mk (band_mk (band_mk (band_mk (band_mk (band_mk (band_mk cf0 cf1) cf2) cf3) cf4) cf5) cf6) cf7) cf8) cf9) cf10) cf11) cf12) cf13) cf14) cf15) cf16) cf17) cf18) cf19) cf20) cf21) cf22) cf23) cf24) cf25) cf26) cf27) (by kernel_rfl)) cf29) cf30) cf31)
theorem over : Rows.pairsMergeRow.holds Try.pinned (OpenSpec.ofChange Rows.pairsMergeSpec) :=
  OpenClaim.holds_of_wide 3 Try.f3 rfl rfl rfl rfl rfl rfl rfl ⟨rfl, rfl, rfl, rfl, rfl⟩ rfl rfl rfl rfl rfl (by kernel_rfl) Try.func3 closed
    (of_decide_eq_true (by kernel_rfl)) (by unfold Func.isWrapper; first | (rw [if_pos (by decide +kernel)]; kernel_rfl) | (rw [if_neg (by decide +kernel)]; exact ⟨rfl, rfl⟩))
    (fun os started H enc _ => lifted os started H enc)
theorem proved : Rows.PairsMergeSaid := over
#print axioms proved
end Go.Proofs.Ytcabapilejagkaa.pairsMerge
namespace Go.Proofs.Ytcabapilejagkaa
theorem pairsMerge_holds : Rows.PairsMergeSaid := pairsMerge.proved
end Go.Proofs.Ytcabapilejagkaa
