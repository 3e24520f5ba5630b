/- ScaleTwice: the part that this text bears of the proof that the statement answers true for every input. No condition. -/
import Derived.Test.YtgkplhdcafbfbaaProg
import Derived.Below
import Derived.Deep.Draws
import Derived.Deep.AppendLies
import Derived.Maps.AppendAt
import Derived.OwnWalk
import Derived.Laws.BytesArg
import Derived.Laws.MakeOwn
import Derived.Laws.OwnMore
import Derived.Deep.OwnRows
import Derived.Tactics
import Derived.Lib.ConvBytes
import Derived.Laws.Slices
import Derived.WalkKit
import Derived.KernelRfl
import Derived.RowKit3
import Derived.Deep.LoopGhost
import Derived.Deep.QuietTactic
import Derived.BigQuiet
import Derived.WideLaws
import Derived.Deep.DeepCutAuto
import Derived.Deep.CutBlock
import Derived.Deep.RegionHeld3
import Derived.Laws.Rows
import Derived.Lib.AppendStr
import Derived.ArgAppend
import Derived.Laws.IdiomCopy
import Derived.OrdersHeld
import Derived.Laws.BitsLemmas
import Derived.RowKit
import Derived.Deep.Slices
import Derived.ChangeArms
import Derived.Shelf.Abstract
import Derived.WalkSpells
import Derived.RangeFuncNested
import Derived.RangeFuncBound
import Derived.RangeFuncCalls
import Derived.RangeFuncLeaves
import Derived.RangeFuncBox
import Derived.OwnWalkIn
import Derived.TacticsInMore
import Derived.LoopNIn
import Derived.LoopIn
import Derived.Laws.Externs
import Derived.Shelf.Spec.BitsCarry
import Derived.RegionIn
import Derived.Sort.QuietTacIn
import Derived.Deep.RegionWith
import Derived.Laws.BitsAllLaws
import Derived.Outline
import Derived.Laws.Tables
import Derived.Deep.WholeRow
import Derived.Laws.CopyOwn
import Derived.Laws.ResultCell
import Derived.ProofKit
import Derived.JoinedOf
import Derived.OpenShut
import Derived.ShutString
import Derived.ChangeOld
import Derived.SizedLaws
import Derived.Test.YtgkplhdcafbfbaaQScaleTwiceWWords
import Derived.Test.YtgkplhdcafbfbaaQScaleTwiceWLast
import Derived.Test.YtgkplhdcafbfbaaQScaleTwiceWTab
import Derived.Test.YtgkplhdcafbfbaaQScaleTwiceWFour
import Derived.Test.YtgkplhdcafbfbaaQScaleTwiceWQPut
import Derived.Test.YtgkplhdcafbfbaaQScaleTwiceWApart
import Derived.Test.YtgkplhdcafbfbaaQScaleTwiceWArr
import Derived.Test.YtgkplhdcafbfbaaQScaleTwiceWZeros
import Derived.Test.YtgkplhdcafbfbaaQScaleTwiceWFoot
import Derived.Test.YtgkplhdcafbfbaaQScaleTwiceWKept
import Derived.Test.YtgkplhdcafbfbaaQScaleTwiceWShare
import Derived.Test.YtgkplhdcafbfbaaQScaleTwiceWN
import Derived.Test.YtgkplhdcafbfbaaQScaleTwiceWFootNe
import Derived.Test.YtgkplhdcafbfbaaQScaleTwiceWAt
import Derived.Test.YtgkplhdcafbfbaaQScaleTwiceWEqStruct
import Derived.Test.YtgkplhdcafbfbaaQScaleTwiceWRepsOne
import Derived.Test.YtgkplhdcafbfbaaQScaleTwiceWInv
import Derived.Test.YtgkplhdcafbfbaaQScaleTwiceWInvWords
import Derived.Test.YtgkplhdcafbfbaaQScaleTwiceWGuard
import Derived.Test.YtgkplhdcafbfbaaQScaleTwiceWNEv
import Derived.Test.YtgkplhdcafbfbaaQScaleTwiceWMore
import Derived.Test.YtgkplhdcafbfbaaRows
import Derived.Test.YtgkplhdcafbfbaaQScaleTwice0
import Derived.Test.YtgkplhdcafbfbaaQScaleTwice1
import Derived.Test.YtgkplhdcafbfbaaQScaleTwice2
import Derived.Test.YtgkplhdcafbfbaaQScaleTwice3
set_option linter.unusedVariables false
set_option linter.unusedSimpArgs false
namespace Go.Proofs.Ytgkplhdcafbfbaa.P
open Go.RowKit Go.Proofs.YtgkplhdcafbfbaaW.PrintWords Go.Proofs.YtgkplhdcafbfbaaW.PrintLast Go.Proofs.YtgkplhdcafbfbaaW.PrintMore
attribute [local go_sem] max2_int min2_int max_two min_two max_three min_three max_four min_four
def fhist_From.f (a0_0 : Int) (a0_1 : Int) (a0_2 : Int) (a0_3 : Int) (a0_4 : Int) (l0_5 : List (S87)) (l0_6 : List (S87)) (l0_7 : List Int) (l0_8 : List Int) : Option (Int × Int × Int × Int × Int × (List (S87)) × (List (S87)) × List Int × List Int × Int) := (hist_Check.f a0_0 a0_1 a0_2 a0_3 a0_4 l0_5 l0_6 l0_7 l0_8).bind fun t103 => (if t103 = 0 then ((fhist_Float.f a0_2).bind fun t104 => ((fhist_Float.f a0_3).bind fun t105 => ((slices_Clone_span.f l0_5).bind fun t106 => ((slices_Clone_span.f l0_6).bind fun t109 => ((fhist_floats.f l0_7).bind fun t112 => ((fhist_floats.f l0_8).bind fun t115 => (some (a0_0, a0_1, t104, t105, a0_4, t106, t109, t112, t115, 0)))))))) else (some (0, 0, 0, 0, 0, ([] : List (S87)), ([] : List (S87)), ([] : List Int), ([] : List Int), t103)))
def fhist_From.T4 : Bool × List (List Nat × List Nat) := (true, [([], []), ([0], [0]), ([], []), ([2], [2]), ([], []), ([4], [4]), ([5], [5]), ([], []), ([7], [7]), ([8, 6], [8]), ([], []), ([10], [10]), ([], []), ([12], [12]), ([13, 9], [13]), ([], []), ([15], [15]), ([16, 14], [16]), ([], []), ([18], [18]), ([19, 17], [19]), ([], []), ([21], [21]), ([22, 20], [22]), ([1, 3, 6, 9, 11, 14, 17, 20, 23], [1, 3, 6, 9, 11, 14, 17, 20, 23]), ([24, 23, 0, 1, 2, 3, 4, 5, 6, 7, 8, 9, 10, 11, 12, 13, 14, 15, 16, 17, 18, 19, 20, 21, 22, 23, 24], [24]), ([25, 0, 1, 2, 3, 4, 5, 6, 7, 8, 9, 10, 11, 12, 13, 14, 15, 16, 17, 18, 19, 20, 21, 22, 23, 24, 25], [])])
def fhist_From.B4 : List Nat := [0, 1, 0, 4, 0, 16, 48, 0, 128, 496, 0, 1024, 0, 4096, 13296, 0, 32768, 127984, 0, 262144, 1045488, 0, 2097152, 8385520, 16777215, 33554431, 67108863]
theorem fhist_From.tab4 : rtab .any (opsOf Try.f36 4) = fhist_From.T4 := by kernel_rfl
theorem fhist_From.bits4 : waitsOk fhist_From.T4.2 fhist_From.B4 = true := by kernel_rfl
set_option maxHeartbeats 8000000 in
set_option maxRecDepth 100000 in
theorem fhist_From.calls (a0_0 : Int) (a0_1 : Int) (a0_2 : Int) (a0_3 : Int) (a0_4 : Int) (A0_5 : Option Addr) (c0_5 : Nat) (l0_5 : List (S87)) (A0_6 : Option Addr) (c0_6 : Nat) (l0_6 : List (S87)) (A0_7 : Option Addr) (c0_7 : Nat) (l0_7 : List Int) (A0_8 : Option Addr) (c0_8 : Nat) (l0_8 : List Int) (r1 : Int) (r2 : Int) (r3 : Int) (r4 : Int) (r5 : Int) (r6 : List (S87)) (r7 : List (S87)) (r8 : List Int) (r9 : List Int) (r10 : Int) (w : World) (hr0_5 : Kd.C k87 w A0_5 l0_5.length l0_5) (hc0_5 : l0_5.length ≤ c0_5) (hr0_6 : Kd.C k87 w A0_6 l0_6.length l0_6) (hc0_6 : l0_6.length ≤ c0_6) (hr0_7 : Kd.C (Kd.int .i64) w A0_7 l0_7.length l0_7) (hc0_7 : l0_7.length ≤ c0_7) (hr0_8 : Kd.C (Kd.int .i64) w A0_8 l0_8.length l0_8) (hc0_8 : l0_8.length ≤ c0_8) (h : fhist_From.f a0_0 a0_1 a0_2 a0_3 a0_4 l0_5 l0_6 l0_7 l0_8 = some (r1, r2, r3, r4, r5, r6, r7, r8, r9, r10)) :
  Calls Try.prog 36 #[.agg #[.int .i64 a0_0, .int .u64 a0_1, .int .u64 a0_2, .int .u64 a0_3, .int .u64 a0_4, .slice A0_5 l0_5.length c0_5, .slice A0_6 l0_6.length c0_6, .slice A0_7 l0_7.length c0_7, .slice A0_8 l0_8.length c0_8]] w fun e w' => ∃ v5_ v6_ v7_ v8_ : Value, e = .returned (.tuple #[.agg #[.int .i64 r1, .int .u64 r2, .int .u64 r3, .int .u64 r4, .int .u64 r5, v5_, v6_, v7_, v8_], .int .i64 r10]) ∧ Kd.R k87 87 w' w.heap.size (fun k_ => some k_ ≠ (v6_ : Value).ownBlock) v5_ r6 ∧ Kd.R k87 87 w' w.heap.size (fun k_ => some k_ ≠ (v5_ : Value).ownBlock) v6_ r7 ∧ Kd.R (Kd.int .u64) 26 w' w.heap.size (fun k_ => some k_ ≠ (v8_ : Value).ownBlock) v7_ r8 ∧ Kd.R (Kd.int .u64) 26 w' w.heap.size (fun k_ => some k_ ≠ (v7_ : Value).ownBlock) v8_ r9 ∧ Below w.heap.size w w' := by
 have hu30 := Try.underlying30
 have hu46 := Try.underlying46
 have HR0_5 := Aside0.mk hr0_5
 have HC0_5 := Aside0.mk hc0_5
 clear hr0_5 hc0_5
 have HR0_6 := Aside0.mk hr0_6
 have HC0_6 := Aside0.mk hc0_6
 clear hr0_6 hc0_6
 have HR0_7 := Aside0.mk hr0_7
 have HC0_7 := Aside0.mk hc0_7
 clear hr0_7 hc0_7
 have HR0_8 := Aside0.mk hr0_8
 have HC0_8 := Aside0.mk hc0_8
 clear hr0_8 hc0_8
 have HB := Aside0.mk (Below.refl w.heap.size w)
 have H : ((hist_Check.f a0_0 a0_1 a0_2 a0_3 a0_4 l0_5 l0_6 l0_7 l0_8).bind fun t103 => (if t103 = 0 then ((fhist_Float.f a0_2).bind fun t104 => ((fhist_Float.f a0_3).bind fun t105 => ((slices_Clone_span.f l0_5).bind fun t106 => ((slices_Clone_span.f l0_6).bind fun t109 => ((fhist_floats.f l0_7).bind fun t112 => ((fhist_floats.f l0_8).bind fun t115 => (some (a0_0, a0_1, t104, t105, a0_4, t106, t109, t112, t115, 0)))))))) else (some (0, 0, 0, 0, 0, ([] : List (S87)), ([] : List (S87)), ([] : List Int), ([] : List Int), t103)))) = some (r1, r2, r3, r4, r5, r6, r7, r8, r9, r10) := h
 clear h
 replace H := Option.bind_eq_some_iff.mp H
 obtain ⟨t103, A20, H⟩ := H
 replace H : (if t103 = 0 then ((fhist_Float.f a0_2).bind fun t104 => ((fhist_Float.f a0_3).bind fun t105 => ((slices_Clone_span.f l0_5).bind fun t106 => ((slices_Clone_span.f l0_6).bind fun t109 => ((fhist_floats.f l0_7).bind fun t112 => ((fhist_floats.f l0_8).bind fun t115 => (some (a0_0, a0_1, t104, t105, a0_4, t106, t109, t112, t115, 0)))))))) else (some (0, 0, 0, 0, 0, ([] : List (S87)), ([] : List (S87)), ([] : List Int), ([] : List Int), t103))) = some (r1, r2, r3, r4, r5, r6, r7, r8, r9, r10) := H
 have A2 := Aside0.mk A20
 clear A20
 by_cases c3 : t103 = 0
 ·rw [if_pos c3] at H
  have c3b0 : (t103 == 0) = true := beq_iff_eq.mpr c3
  have c3b1 : (t103 != 0) = false := bne_eq_false_iff_eq.mpr c3
  clear c3
  replace H := Option.bind_eq_some_iff.mp H
  obtain ⟨t104, A40, H⟩ := H
  replace H : ((fhist_Float.f a0_3).bind fun t105 => ((slices_Clone_span.f l0_5).bind fun t106 => ((slices_Clone_span.f l0_6).bind fun t109 => ((fhist_floats.f l0_7).bind fun t112 => ((fhist_floats.f l0_8).bind fun t115 => (some (a0_0, a0_1, t104, t105, a0_4, t106, t109, t112, t115, 0))))))) = some (r1, r2, r3, r4, r5, r6, r7, r8, r9, r10) := H
  have A4 := Aside0.mk A40
  clear A40
  replace H := Option.bind_eq_some_iff.mp H
  obtain ⟨t105, A50, H⟩ := H
  replace H : ((slices_Clone_span.f l0_5).bind fun t106 => ((slices_Clone_span.f l0_6).bind fun t109 => ((fhist_floats.f l0_7).bind fun t112 => ((fhist_floats.f l0_8).bind fun t115 => (some (a0_0, a0_1, t104, t105, a0_4, t106, t109, t112, t115, 0)))))) = some (r1, r2, r3, r4, r5, r6, r7, r8, r9, r10) := H
  have A5 := Aside0.mk A50
  clear A50
  replace H := Option.bind_eq_some_iff.mp H
  obtain ⟨t106, A60, H⟩ := H
  replace H : ((slices_Clone_span.f l0_6).bind fun t109 => ((fhist_floats.f l0_7).bind fun t112 => ((fhist_floats.f l0_8).bind fun t115 => (some (a0_0, a0_1, t104, t105, a0_4, t106, t109, t112, t115, 0))))) = some (r1, r2, r3, r4, r5, r6, r7, r8, r9, r10) := H
  have A6 := Aside0.mk A60
  clear A60
  replace H := Option.bind_eq_some_iff.mp H
  obtain ⟨t109, A70, H⟩ := H
  replace H : ((fhist_floats.f l0_7).bind fun t112 => ((fhist_floats.f l0_8).bind fun t115 => (some (a0_0, a0_1, t104, t105, a0_4, t106, t109, t112, t115, 0)))) = some (r1, r2, r3, r4, r5, r6, r7, r8, r9, r10) := H
  have A7 := Aside0.mk A70
  clear A70
  replace H := Option.bind_eq_some_iff.mp H
  obtain ⟨t112, A80, H⟩ := H
  replace H : ((fhist_floats.f l0_8).bind fun t115 => (some (a0_0, a0_1, t104, t105, a0_4, t106, t109, t112, t115, 0))) = some (r1, r2, r3, r4, r5, r6, r7, r8, r9, r10) := H
  have A8 := Aside0.mk A80
  clear A80
  replace H := Option.bind_eq_some_iff.mp H
  obtain ⟨t115, A90, H⟩ := H
  replace H : (some (a0_0, a0_1, t104, t105, a0_4, t106, t109, t112, t115, 0)) = some (r1, r2, r3, r4, r5, r6, r7, r8, r9, r10) := H
  have A9 := Aside0.mk A90
  clear A90
  simp only [Option.some.injEq, Prod.mk.injEq] at H
  obtain ⟨rfl, rfl, rfl, rfl, rfl, rfl, rfl, rfl, rfl, rfl⟩ := H
  go_enter Try.func36, Try.ntmps36
  try go_wp2_with (first | ((with_reducible refine gate_dst (N := 1) rfl ?_); refine box_event ?hg (N := 1) ?hd (cs := #[.int .i64 a0_0, .int .u64 a0_1, .int .u64 a0_2, .int .u64 a0_3, .int .u64 a0_4, .slice A0_5 l0_5.length c0_5, .slice A0_6 l0_6.length c0_6, .slice A0_7 l0_7.length c0_7, .slice A0_8 l0_8.length c0_8]) (t := 30) ?hr ?_; (case hd => rfl); (case hg => rfl); (case hr => first | (go_simp; done) | (go_simp; rfl)); intro gb101 hg w10 hbox hb; have n0_ := Aside0.mk (below_step (by repeat (first | (with_reducible first | exact HB.out | apply below_alloc | apply pw_below_drewN | apply below_drew1) | exact HB.out)) hb); have n1_ := Aside0.mk (hbox); have n2_ := Aside0.mk ((by rw [hg]; exact (below_size (by repeat (first | (with_reducible first | exact HB.out | apply below_alloc | apply pw_below_drewN | apply below_drew1) | exact HB.out))) : w.heap.size ≤ gb101)); have n3_ := Aside0.mk ((by rw [hg]; exact (below_size (by repeat (first | (with_reducible first | exact HB.out | apply below_alloc | apply pw_below_drewN | apply below_drew1) | exact HB.out))) : w.heap.size ≤ gb101)); clear HB; have HB := n0_; have BK101 := n1_; have GW101 := n2_; have GE101 := n3_; clear n0_ n1_ n2_ n3_; clear hb hbox hg) | ((with_reducible refine gate_dst (N := 2) rfl ?_); refine box_event ?hg (N := 2) ?hd (cs := #[.int .i64 0, .int .u64 0, .int .u64 0, .int .u64 0, .int .u64 0, .slice none 0 0, .slice none 0 0, .slice none 0 0, .slice none 0 0]) (t := 46) ?hr ?_; (case hd => rfl); (case hg => rfl); (case hr => first | (go_simp; done) | (go_simp; rfl)); intro gb102 hg w11 hbox hb; have n0_ := Aside0.mk (blk_below (g := gb101) (o := .cells #[.int .i64 a0_0, .int .u64 a0_1, .int .u64 a0_2, .int .u64 a0_3, .int .u64 a0_4, .slice A0_5 l0_5.length c0_5, .slice A0_6 l0_6.length c0_6, .slice A0_7 l0_7.length c0_7, .slice A0_8 l0_8.length c0_8] 30 (0, 0)) (by (with_reducible repeat (first | refine blk_drewN ?_ _ | refine blk_drew ?_ | refine blk_alloc ?_ _)); exact BK101.out) hb); have n1_ := Aside0.mk (below_step (by repeat (first | (with_reducible first | exact HB.out | apply below_alloc | apply pw_below_drewN | apply below_drew1 | refine below_set ?_ GE101.out) | exact HB.out)) hb); have n2_ := Aside0.mk (hbox); have n3_ := Aside0.mk ((by rw [hg]; exact (below_size (by repeat (first | (with_reducible first | exact HB.out | apply below_alloc | apply pw_below_drewN | apply below_drew1 | refine below_set ?_ GE101.out) | exact HB.out))) : w.heap.size ≤ gb102)); have n4_ := Aside0.mk ((by rw [hg]; exact (below_size (by repeat (first | (with_reducible first | exact HB.out | apply below_alloc | apply pw_below_drewN | apply below_drew1 | refine below_set ?_ GE101.out) | exact HB.out))) : w.heap.size ≤ gb102)); have n5_ := Aside0.mk ((by rw [hg]; exact Nat.ne_of_lt (blk_lt (g := gb101) (o := .cells #[.int .i64 a0_0, .int .u64 a0_1, .int .u64 a0_2, .int .u64 a0_3, .int .u64 a0_4, .slice A0_5 l0_5.length c0_5, .slice A0_6 l0_6.length c0_6, .slice A0_7 l0_7.length c0_7, .slice A0_8 l0_8.length c0_8] 30 (0, 0)) (by (with_reducible repeat (first | refine blk_drewN ?_ _ | refine blk_drew ?_ | refine blk_alloc ?_ _)); exact BK101.out)) : gb101 ≠ gb102)); have n6_ := Aside0.mk ((by rw [hg]; exact Nat.ne_of_gt (blk_lt (g := gb101) (o := .cells #[.int .i64 a0_0, .int .u64 a0_1, .int .u64 a0_2, .int .u64 a0_3, .int .u64 a0_4, .slice A0_5 l0_5.length c0_5, .slice A0_6 l0_6.length c0_6, .slice A0_7 l0_7.length c0_7, .slice A0_8 l0_8.length c0_8] 30 (0, 0)) (by (with_reducible repeat (first | refine blk_drewN ?_ _ | refine blk_drew ?_ | refine blk_alloc ?_ _)); exact BK101.out)) : gb102 ≠ gb101)); clear BK101; clear HB; have BK101 := n0_; have HB := n1_; have BK102 := n2_; have GW102 := n3_; have GE102 := n4_; have NB101_102 := n5_; have NB102_101 := n6_; clear n0_ n1_ n2_ n3_ n4_ n5_ n6_; clear hb hbox hg; have hnb12 := NB101_102.out; have hnc12 := NB102_101.out; have hcz13_0 : w11.cell? ⟨gb101, 0, none⟩ = some (.int .i64 a0_0) := (blk_cell BK101.out 0).trans rfl; have hcz13_1 : w11.cell? ⟨gb101, 1, none⟩ = some (.int .u64 a0_1) := (blk_cell BK101.out 1).trans rfl; have hcz13_2 : w11.cell? ⟨gb101, 2, none⟩ = some (.int .u64 a0_2) := (blk_cell BK101.out 2).trans rfl; have hcz13_3 : w11.cell? ⟨gb101, 3, none⟩ = some (.int .u64 a0_3) := (blk_cell BK101.out 3).trans rfl; have hcz13_4 : w11.cell? ⟨gb101, 4, none⟩ = some (.int .u64 a0_4) := (blk_cell BK101.out 4).trans rfl; have hcz13_5 : w11.cell? ⟨gb101, 5, none⟩ = some (.slice A0_5 l0_5.length c0_5) := (blk_cell BK101.out 5).trans rfl; have hcz13_6 : w11.cell? ⟨gb101, 6, none⟩ = some (.slice A0_6 l0_6.length c0_6) := (blk_cell BK101.out 6).trans rfl; have hcz13_7 : w11.cell? ⟨gb101, 7, none⟩ = some (.slice A0_7 l0_7.length c0_7) := (blk_cell BK101.out 7).trans rfl; have hcz13_8 : w11.cell? ⟨gb101, 8, none⟩ = some (.slice A0_8 l0_8.length c0_8) := (blk_cell BK101.out 8).trans rfl; have hfz13_0 := blk_frozen BK101.out 0; have hfz13_1 := blk_frozen BK101.out 1; have hfz13_2 := blk_frozen BK101.out 2; have hfz13_3 := blk_frozen BK101.out 3; have hfz13_4 := blk_frozen BK101.out 4; have hfz13_5 := blk_frozen BK101.out 5; have hfz13_6 := blk_frozen BK101.out 6; have hfz13_7 := blk_frozen BK101.out 7; have hfz13_8 := blk_frozen BK101.out 8) | ((with_reducible refine gate_callee (f := 19) rfl ?_); refine goesL_ (some 6) rfl rfl Try.func19 (by kernel_rfl) rfl #[.agg #[.int .i64 a0_0, .int .u64 a0_1, .int .u64 a0_2, .int .u64 a0_3, .int .u64 a0_4, .slice A0_5 l0_5.length c0_5, .slice A0_6 l0_6.length c0_6, .slice A0_7 l0_7.length c0_7, .slice A0_8 l0_8.length c0_8]] rfl (by (try simp only [List.map_toArray, List.map_cons, List.map_nil]); first | done | rfl | (simp only [List.length_drop, List.length_take]; rfl)) ?_; (with_reducible refine (hist_Check.calls a0_0 a0_1 a0_2 a0_3 a0_4 _ _ l0_5 _ _ l0_6 _ _ l0_7 _ _ l0_8 t103 _ ?side1 ?side2 ?side3 ?side4 ?side5 ?side6 ?side7 ?side8 A2.out).mono ?_); (case side1 => repeat (first | exact (Kd.C_below HR0_5.out HB.out) | (with_reducible refine Kd.C_alloc ?_ _) | (with_reducible refine Kd.C_drewN ?_ _) | (with_reducible refine Kd.C_drew ?_))); (case side2 => exact HC0_5.out); (case side3 => repeat (first | exact (Kd.C_below HR0_6.out HB.out) | (with_reducible refine Kd.C_alloc ?_ _) | (with_reducible refine Kd.C_drewN ?_ _) | (with_reducible refine Kd.C_drew ?_))); (case side4 => exact HC0_6.out); (case side5 => repeat (first | exact (Kd.C_below HR0_7.out HB.out) | (with_reducible refine Kd.C_alloc ?_ _) | (with_reducible refine Kd.C_drewN ?_ _) | (with_reducible refine Kd.C_drew ?_))); (case side6 => exact HC0_7.out); (case side7 => repeat (first | exact (Kd.C_below HR0_8.out HB.out) | (with_reducible refine Kd.C_alloc ?_ _) | (with_reducible refine Kd.C_drewN ?_ _) | (with_reducible refine Kd.C_drew ?_))); (case side8 => exact HC0_8.out); rintro e w14 ⟨rfl, hb⟩; refine ⟨_, rfl, ?_⟩; have n0_ := Aside0.mk (blk_below (g := gb101) (o := .cells #[.int .i64 a0_0, .int .u64 a0_1, .int .u64 a0_2, .int .u64 a0_3, .int .u64 a0_4, .slice A0_5 l0_5.length c0_5, .slice A0_6 l0_6.length c0_6, .slice A0_7 l0_7.length c0_7, .slice A0_8 l0_8.length c0_8] 30 (0, 0)) (by (with_reducible repeat (first | refine blk_drewN ?_ _ | refine blk_drew ?_ | refine blk_alloc ?_ _)); exact BK101.out) hb); have n1_ := Aside0.mk (blk_below (g := gb102) (o := .cells #[.int .i64 0, .int .u64 0, .int .u64 0, .int .u64 0, .int .u64 0, .slice none 0 0, .slice none 0 0, .slice none 0 0, .slice none 0 0] 46 (0, 0)) (by (with_reducible repeat (first | refine blk_drewN ?_ _ | refine blk_drew ?_ | refine blk_alloc ?_ _)); exact BK102.out) hb); have n2_ := Aside0.mk (below_step (by repeat (first | (with_reducible first | exact HB.out | apply below_alloc | apply pw_below_drewN | apply below_drew1 | refine below_set ?_ GE101.out | refine below_set ?_ GE102.out) | exact HB.out)) hb); clear BK101; clear BK102; clear HB; have BK101 := n0_; have BK102 := n1_; have HB := n2_; clear n0_ n1_ n2_; (try clear hb); (try clear hb2); (try clear hk); (try clear hi); clear A2))
  have n0_ := Aside0.mk (blk_drew BK101.out)
  have n1_ := Aside0.mk (blk_drew BK102.out)
  have n2_ := Aside0.mk (below_drew1 HB.out)
  clear BK101
  clear BK102
  clear HB
  have BK101 := n0_
  have BK102 := n1_
  have HB := n2_
  clear n0_ n1_ n2_
  refine start_ (n := 27) (S := fun w' => w'.cell? ⟨gb101, 0, none⟩ = some (.int .i64 a0_0) ∧ w'.cell? ⟨gb101, 1, none⟩ = some (.int .u64 a0_1) ∧ w'.cell? ⟨gb101, 2, none⟩ = some (.int .u64 a0_2) ∧ w'.cell? ⟨gb101, 3, none⟩ = some (.int .u64 a0_3) ∧ w'.cell? ⟨gb101, 4, none⟩ = some (.int .u64 a0_4) ∧ w'.cell? ⟨gb101, 5, none⟩ = some (.slice A0_5 l0_5.length c0_5) ∧ w'.cell? ⟨gb101, 6, none⟩ = some (.slice A0_6 l0_6.length c0_6) ∧ w'.cell? ⟨gb101, 7, none⟩ = some (.slice A0_7 l0_7.length c0_7) ∧ w'.cell? ⟨gb101, 8, none⟩ = some (.slice A0_8 l0_8.length c0_8)) (ds := []) #[false, false, false, false, false, false, false, false, false, false, false, false, false, false, false, false, false, false, false, false, false, false, false, false, false, false, false] (by kernel_rfl) rfl rfl ⟨(blk_cell BK101.out 0).trans rfl, (blk_cell BK101.out 1).trans rfl, (blk_cell BK101.out 2).trans rfl, (blk_cell BK101.out 3).trans rfl, (blk_cell BK101.out 4).trans rfl, (blk_cell BK101.out 5).trans rfl, (blk_cell BK101.out 6).trans rfl, (blk_cell BK101.out 7).trans rfl, (blk_cell BK101.out 8).trans rfl⟩ (fun hHeld => ?_); refine with_tabW fhist_From.tab4 fhist_From.bits4 (fun HT_ HW_ => ?_)
  generalize w14.drew = w15 at BK101 BK102 HB hHeld ⊢
  refine pure_ (i := 0) (N := some 11) (v := ?_) (a' := ?_) #[true, false, false, false, false, false, false, false, false, false, false, false, false, false, false, false, false, false, false, false, false, false, false, false, false, false, false] rfl rfl (any_of HT_.out (by kernel_rfl)) (fun _ _ _ h => h) (Or.inl ⟨by rfl, ?_⟩) ?_ ?_
  rotate_left
  ·intro w'
   go_simp
   with_reducible rfl
  rotate_left
  ·simp only [Act.put, List.setIfInBounds_toArray, List.set_cons_zero, List.set_cons_succ, i64_w, i32_w]
   rfl
  refine pure_ (i := 2) (N := some 13) (v := ?_) (a' := ?_) #[true, false, true, false, false, false, false, false, false, false, false, false, false, false, false, false, false, false, false, false, false, false, false, false, false, false, false] rfl rfl (any_of HT_.out (by kernel_rfl)) (fun _ _ _ h => h) (Or.inl ⟨by rfl, ?_⟩) ?_ ?_
  rotate_left
  ·intro w'
   go_simp
   with_reducible rfl
  rotate_left
  ·simp only [Act.put, List.setIfInBounds_toArray, List.set_cons_zero, List.set_cons_succ, i64_w, i32_w]
   rfl
  refine pure_ (i := 4) (N := some 15) (v := ?_) (a' := ?_) #[true, false, true, false, true, false, false, false, false, false, false, false, false, false, false, false, false, false, false, false, false, false, false, false, false, false, false] rfl rfl (any_of HT_.out (by kernel_rfl)) (fun _ _ _ h => h) (Or.inl ⟨by rfl, ?_⟩) ?_ ?_
  rotate_left
  ·intro w'
   go_simp
   with_reducible rfl
  rotate_left
  ·simp only [Act.put, List.setIfInBounds_toArray, List.set_cons_zero, List.set_cons_succ, i64_w, i32_w]
   rfl
  refine pure_ (i := 7) (N := some 18) (v := ?_) (a' := ?_) #[true, false, true, false, true, false, false, true, false, false, false, false, false, false, false, false, false, false, false, false, false, false, false, false, false, false, false] rfl rfl (any_of HT_.out (by kernel_rfl)) (fun _ _ _ h => h) (Or.inl ⟨by rfl, ?_⟩) ?_ ?_
  rotate_left
  ·intro w'
   go_simp
   with_reducible rfl
  rotate_left
  ·simp only [Act.put, List.setIfInBounds_toArray, List.set_cons_zero, List.set_cons_succ, i64_w, i32_w]
   rfl
  refine pure_ (i := 10) (N := some 21) (v := ?_) (a' := ?_) #[true, false, true, false, true, false, false, true, false, false, true, false, false, false, false, false, false, false, false, false, false, false, false, false, false, false, false] rfl rfl (any_of HT_.out (by kernel_rfl)) (fun _ _ _ h => h) (Or.inl ⟨by rfl, ?_⟩) ?_ ?_
  rotate_left
  ·intro w'
   go_simp
   with_reducible rfl
  rotate_left
  ·simp only [Act.put, List.setIfInBounds_toArray, List.set_cons_zero, List.set_cons_succ, i64_w, i32_w]
   rfl
  refine pure_ (i := 12) (N := some 23) (v := ?_) (a' := ?_) #[true, false, true, false, true, false, false, true, false, false, true, false, true, false, false, false, false, false, false, false, false, false, false, false, false, false, false] rfl rfl (any_of HT_.out (by kernel_rfl)) (fun _ _ _ h => h) (Or.inl ⟨by rfl, ?_⟩) ?_ ?_
  rotate_left
  ·intro w'
   go_simp
   with_reducible rfl
  rotate_left
  ·simp only [Act.put, List.setIfInBounds_toArray, List.set_cons_zero, List.set_cons_succ, i64_w, i32_w]
   rfl
  refine pure_ (i := 15) (N := some 26) (v := ?_) (a' := ?_) #[true, false, true, false, true, false, false, true, false, false, true, false, true, false, false, true, false, false, false, false, false, false, false, false, false, false, false] rfl rfl (any_of HT_.out (by kernel_rfl)) (fun _ _ _ h => h) (Or.inl ⟨by rfl, ?_⟩) ?_ ?_
  rotate_left
  ·intro w'
   go_simp
   with_reducible rfl
  rotate_left
  ·simp only [Act.put, List.setIfInBounds_toArray, List.set_cons_zero, List.set_cons_succ, i64_w, i32_w]
   rfl
  refine pure_ (i := 18) (N := some 29) (v := ?_) (a' := ?_) #[true, false, true, false, true, false, false, true, false, false, true, false, true, false, false, true, false, false, true, false, false, false, false, false, false, false, false] rfl rfl (any_of HT_.out (by kernel_rfl)) (fun _ _ _ h => h) (Or.inl ⟨by rfl, ?_⟩) ?_ ?_
  rotate_left
  ·intro w'
   go_simp
   with_reducible rfl
  rotate_left
  ·simp only [Act.put, List.setIfInBounds_toArray, List.set_cons_zero, List.set_cons_succ, i64_w, i32_w]
   rfl
  refine pure_ (i := 21) (N := some 32) (v := ?_) (a' := ?_) #[true, false, true, false, true, false, false, true, false, false, true, false, true, false, false, true, false, false, true, false, false, true, false, false, false, false, false] rfl rfl (any_of HT_.out (by kernel_rfl)) (fun _ _ _ h => h) (Or.inl ⟨by rfl, ?_⟩) ?_ ?_
  rotate_left
  ·intro w'
   go_simp
   with_reducible rfl
  rotate_left
  ·simp only [Act.put, List.setIfInBounds_toArray, List.set_cons_zero, List.set_cons_succ, i64_w, i32_w]
   rfl
  refine take_ (i := 1) (N := some 12) (v := ?_) (a' := ?_) #[true, true, true, false, true, false, false, true, false, false, true, false, true, false, false, true, false, false, true, false, false, true, false, false, false, false, false] rfl rfl (take_ofW HT_.out HW_.out (by kernel_rfl)) (fun _ _ _ h => h) (Or.inl ⟨by rfl, ?_⟩) hHeld ?_ ?_
  rotate_left
  ·rintro w' ⟨s0, s1, s2, s3, s4, s5, s6, s7, s8⟩
   go_simp
   with_reducible rfl
  rotate_left
  ·simp only [Act.put, List.setIfInBounds_toArray, List.set_cons_zero, List.set_cons_succ, i64_w, i32_w]
   rfl
  refine take_ (i := 3) (N := some 14) (v := ?_) (a' := ?_) #[true, true, true, true, true, false, false, true, false, false, true, false, true, false, false, true, false, false, true, false, false, true, false, false, false, false, false] rfl rfl (take_ofW HT_.out HW_.out (by kernel_rfl)) (fun _ _ _ h => h) (Or.inl ⟨by rfl, ?_⟩) hHeld ?_ ?_
  rotate_left
  ·rintro w' ⟨s0, s1, s2, s3, s4, s5, s6, s7, s8⟩
   go_simp
   with_reducible rfl
  rotate_left
  ·simp only [Act.put, List.setIfInBounds_toArray, List.set_cons_zero, List.set_cons_succ, i64_w, i32_w]
   rfl
  refine take_ (i := 5) (N := some 16) (v := ?_) (a' := ?_) #[true, true, true, true, true, true, false, true, false, false, true, false, true, false, false, true, false, false, true, false, false, true, false, false, false, false, false] rfl rfl (take_ofW HT_.out HW_.out (by kernel_rfl)) (fun _ _ _ h => h) (Or.inl ⟨by rfl, ?_⟩) hHeld ?_ ?_
  rotate_left
  ·rintro w' ⟨s0, s1, s2, s3, s4, s5, s6, s7, s8⟩
   go_simp
   with_reducible rfl
  rotate_left
  ·simp only [Act.put, List.setIfInBounds_toArray, List.set_cons_zero, List.set_cons_succ, i64_w, i32_w]
   rfl
  refine take_ (i := 8) (N := some 19) (v := ?_) (a' := ?_) #[true, true, true, true, true, true, false, true, true, false, true, false, true, false, false, true, false, false, true, false, false, true, false, false, false, false, false] rfl rfl (take_ofW HT_.out HW_.out (by kernel_rfl)) (fun _ _ _ h => h) (Or.inl ⟨by rfl, ?_⟩) hHeld ?_ ?_
  rotate_left
  ·rintro w' ⟨s0, s1, s2, s3, s4, s5, s6, s7, s8⟩
   go_simp
   with_reducible rfl
  rotate_left
  ·simp only [Act.put, List.setIfInBounds_toArray, List.set_cons_zero, List.set_cons_succ, i64_w, i32_w]
   rfl
  refine take_ (i := 11) (N := some 22) (v := ?_) (a' := ?_) #[true, true, true, true, true, true, false, true, true, false, true, true, true, false, false, true, false, false, true, false, false, true, false, false, false, false, false] rfl rfl (take_ofW HT_.out HW_.out (by kernel_rfl)) (fun _ _ _ h => h) (Or.inl ⟨by rfl, ?_⟩) hHeld ?_ ?_
  rotate_left
  ·rintro w' ⟨s0, s1, s2, s3, s4, s5, s6, s7, s8⟩
   go_simp
   with_reducible rfl
  rotate_left
  ·simp only [Act.put, List.setIfInBounds_toArray, List.set_cons_zero, List.set_cons_succ, i64_w, i32_w]
   rfl
  refine take_ (i := 13) (N := some 24) (v := ?_) (a' := ?_) #[true, true, true, true, true, true, false, true, true, false, true, true, true, true, false, true, false, false, true, false, false, true, false, false, false, false, false] rfl rfl (take_ofW HT_.out HW_.out (by kernel_rfl)) (fun _ _ _ h => h) (Or.inl ⟨by rfl, ?_⟩) hHeld ?_ ?_
  rotate_left
  ·rintro w' ⟨s0, s1, s2, s3, s4, s5, s6, s7, s8⟩
   go_simp
   with_reducible rfl
  rotate_left
  ·simp only [Act.put, List.setIfInBounds_toArray, List.set_cons_zero, List.set_cons_succ, i64_w, i32_w]
   rfl
  refine take_ (i := 16) (N := some 27) (v := ?_) (a' := ?_) #[true, true, true, true, true, true, false, true, true, false, true, true, true, true, false, true, true, false, true, false, false, true, false, false, false, false, false] rfl rfl (take_ofW HT_.out HW_.out (by kernel_rfl)) (fun _ _ _ h => h) (Or.inl ⟨by rfl, ?_⟩) hHeld ?_ ?_
  rotate_left
  ·rintro w' ⟨s0, s1, s2, s3, s4, s5, s6, s7, s8⟩
   go_simp
   with_reducible rfl
  rotate_left
  ·simp only [Act.put, List.setIfInBounds_toArray, List.set_cons_zero, List.set_cons_succ, i64_w, i32_w]
   rfl
  refine take_ (i := 19) (N := some 30) (v := ?_) (a' := ?_) #[true, true, true, true, true, true, false, true, true, false, true, true, true, true, false, true, true, false, true, true, false, true, false, false, false, false, false] rfl rfl (take_ofW HT_.out HW_.out (by kernel_rfl)) (fun _ _ _ h => h) (Or.inl ⟨by rfl, ?_⟩) hHeld ?_ ?_
  rotate_left
  ·rintro w' ⟨s0, s1, s2, s3, s4, s5, s6, s7, s8⟩
   go_simp
   with_reducible rfl
  rotate_left
  ·simp only [Act.put, List.setIfInBounds_toArray, List.set_cons_zero, List.set_cons_succ, i64_w, i32_w]
   rfl
  refine take_ (i := 22) (N := some 33) (v := ?_) (a' := ?_) #[true, true, true, true, true, true, false, true, true, false, true, true, true, true, false, true, true, false, true, true, false, true, true, false, false, false, false] rfl rfl (take_ofW HT_.out HW_.out (by kernel_rfl)) (fun _ _ _ h => h) (Or.inl ⟨by rfl, ?_⟩) hHeld ?_ ?_
  rotate_left
  ·rintro w' ⟨s0, s1, s2, s3, s4, s5, s6, s7, s8⟩
   go_simp
   with_reducible rfl
  rotate_left
  ·simp only [Act.put, List.setIfInBounds_toArray, List.set_cons_zero, List.set_cons_succ, i64_w, i32_w]
   rfl
  refine one_ (i := 6) (N := some 17) #[true, true, true, true, true, true, true, true, true, false, true, true, true, true, false, true, true, false, true, true, false, true, true, false, false, false, false] rfl rfl (one_of HT_.out (by kernel_rfl)) (by decide) (fun K hK => ?_)
  refine goes_ Try.func79 (by kernel_rfl) rfl #[.int .u64 a0_2] (by rfl) rfl rfl (by (try simp only [List.map_toArray, List.map_cons, List.map_nil]); first | done | rfl | (simp only [List.length_drop, List.length_take]; rfl)) ?_
  with_reducible refine (fhist_Float.calls a0_2 t104 _ A4.out).mono ?_
  rintro e w' ⟨rfl, ⟨nd, rfl⟩⟩
  refine ⟨_, rfl, ?_⟩
  refine hK.out _ _ ⟨(blk_cell BK101.out 0).trans rfl, (blk_cell BK101.out 1).trans rfl, (blk_cell BK101.out 2).trans rfl, (blk_cell BK101.out 3).trans rfl, (blk_cell BK101.out 4).trans rfl, (blk_cell BK101.out 5).trans rfl, (blk_cell BK101.out 6).trans rfl, (blk_cell BK101.out 7).trans rfl, (blk_cell BK101.out 8).trans rfl⟩ (fun hHeld => ?_)
  clear hK K
  refine norm_ (a' := ?_) ?_ ?_
  rotate_left
  ·show Act.put _ (some 17) _ = _
   simp only [Act.put, List.setIfInBounds_toArray, List.set_cons_zero, List.set_cons_succ, i64_w, i32_w]
   rfl
  refine one_ (i := 9) (N := some 20) #[true, true, true, true, true, true, true, true, true, true, true, true, true, true, false, true, true, false, true, true, false, true, true, false, false, false, false] rfl rfl (one_of HT_.out (by kernel_rfl)) (by decide) (fun K hK => ?_)
  refine goes_ Try.func79 (by kernel_rfl) rfl #[.int .u64 a0_3] (by rfl) rfl rfl (by (try simp only [List.map_toArray, List.map_cons, List.map_nil]); first | done | rfl | (simp only [List.length_drop, List.length_take]; rfl)) ?_
  with_reducible refine (fhist_Float.calls a0_3 t105 _ A5.out).mono ?_
  rintro e w' ⟨rfl, ⟨nd, rfl⟩⟩
  refine ⟨_, rfl, ?_⟩
  refine hK.out _ _ ⟨(blk_cell BK101.out 0).trans rfl, (blk_cell BK101.out 1).trans rfl, (blk_cell BK101.out 2).trans rfl, (blk_cell BK101.out 3).trans rfl, (blk_cell BK101.out 4).trans rfl, (blk_cell BK101.out 5).trans rfl, (blk_cell BK101.out 6).trans rfl, (blk_cell BK101.out 7).trans rfl, (blk_cell BK101.out 8).trans rfl⟩ (fun hHeld => ?_)
  clear hK K
  refine norm_ (a' := ?_) ?_ ?_
  rotate_left
  ·show Act.put _ (some 20) _ = _
   simp only [Act.put, List.setIfInBounds_toArray, List.set_cons_zero, List.set_cons_succ, i64_w, i32_w]
   rfl
  refine one_ (i := 14) (N := some 25) #[true, true, true, true, true, true, true, true, true, true, true, true, true, true, true, true, true, false, true, true, false, true, true, false, false, false, false] rfl rfl (one_of HT_.out (by kernel_rfl)) (by decide) (fun K hK => ?_)
  refine goes_ Try.func80 (by kernel_rfl) rfl #[.slice A0_5 l0_5.length c0_5] (by rfl) rfl rfl (by (try simp only [List.map_toArray, List.map_cons, List.map_nil]); first | done | rfl | (simp only [List.length_drop, List.length_take]; rfl)) ?_
  with_reducible refine (slices_Clone_span.calls _ _ l0_5 t106 _ ?side1 ?side2 A6.out).mono ?_
  (case side1 => repeat (first | exact (Kd.C_below HR0_5.out (by repeat (first | (with_reducible first | exact HB.out | apply below_alloc | apply pw_below_drewN | apply below_drew1 | refine below_set ?_ GE101.out | refine below_set ?_ GE102.out) | exact HB.out))) | (with_reducible refine Kd.C_alloc ?_ _) | (with_reducible refine Kd.C_drewN ?_ _) | (with_reducible refine Kd.C_drew ?_)))
  (case side2 => exact HC0_5.out)
  rintro e w16 ⟨v107, rfl, ho0, hb⟩
  refine ⟨_, rfl, ?_⟩
  have n0_ := Aside0.mk (Kd.R_lower ho0 (below_size (by repeat (first | (with_reducible first | exact HB.out | apply below_alloc | apply pw_below_drewN | apply below_drew1 | refine below_set ?_ GE101.out | refine below_set ?_ GE102.out) | exact HB.out))))
  have n1_ := Aside0.mk (blk_below (g := gb101) (o := .cells #[.int .i64 a0_0, .int .u64 a0_1, .int .u64 a0_2, .int .u64 a0_3, .int .u64 a0_4, .slice A0_5 l0_5.length c0_5, .slice A0_6 l0_6.length c0_6, .slice A0_7 l0_7.length c0_7, .slice A0_8 l0_8.length c0_8] 30 (0, 0)) (by (with_reducible repeat (first | refine blk_drewN ?_ _ | refine blk_drew ?_ | refine blk_alloc ?_ _)); exact BK101.out) hb)
  have n2_ := Aside0.mk (blk_below (g := gb102) (o := .cells #[.int .i64 0, .int .u64 0, .int .u64 0, .int .u64 0, .int .u64 0, .slice none 0 0, .slice none 0 0, .slice none 0 0, .slice none 0 0] 46 (0, 0)) (by (with_reducible repeat (first | refine blk_drewN ?_ _ | refine blk_drew ?_ | refine blk_alloc ?_ _)); exact BK102.out) hb)
  have n3_ := Aside0.mk (below_step (by repeat (first | (with_reducible first | exact HB.out | apply below_alloc | apply pw_below_drewN | apply below_drew1 | refine below_set ?_ GE101.out | refine below_set ?_ GE102.out) | exact HB.out)) hb)
  clear BK101
  clear BK102
  clear HB
  have HO108 := n0_
  have BK101 := n1_
  have BK102 := n2_
  have HB := n3_
  clear n0_ n1_ n2_ n3_
  (try clear hb)
  (try clear hb2)
  (try clear hk)
  (try clear hi)
  (try clear ho0)
  refine hK.out _ _ ⟨(blk_cell BK101.out 0).trans rfl, (blk_cell BK101.out 1).trans rfl, (blk_cell BK101.out 2).trans rfl, (blk_cell BK101.out 3).trans rfl, (blk_cell BK101.out 4).trans rfl, (blk_cell BK101.out 5).trans rfl, (blk_cell BK101.out 6).trans rfl, (blk_cell BK101.out 7).trans rfl, (blk_cell BK101.out 8).trans rfl⟩ (fun hHeld => ?_)
  clear hK K
  refine norm_ (a' := ?_) ?_ ?_
  rotate_left
  ·show Act.put _ (some 25) _ = _
   simp only [Act.put, List.setIfInBounds_toArray, List.set_cons_zero, List.set_cons_succ, i64_w, i32_w]
   rfl
  refine one_ (i := 17) (N := some 28) #[true, true, true, true, true, true, true, true, true, true, true, true, true, true, true, true, true, true, true, true, false, true, true, false, false, false, false] rfl rfl (one_of HT_.out (by kernel_rfl)) (by decide) (fun K hK => ?_)
  refine goes_ Try.func80 (by kernel_rfl) rfl #[.slice A0_6 l0_6.length c0_6] (by rfl) rfl rfl (by (try simp only [List.map_toArray, List.map_cons, List.map_nil]); first | done | rfl | (simp only [List.length_drop, List.length_take]; rfl)) ?_
  with_reducible refine (slices_Clone_span.calls _ _ l0_6 t109 _ ?side1 ?side2 A7.out).mono ?_
  (case side1 => repeat (first | exact (Kd.C_below HR0_6.out HB.out) | (with_reducible refine Kd.C_alloc ?_ _) | (with_reducible refine Kd.C_drewN ?_ _) | (with_reducible refine Kd.C_drew ?_)))
  (case side2 => exact HC0_6.out)
  rintro e w17 ⟨v110, rfl, ho0, hb⟩
  refine ⟨_, rfl, ?_⟩
  have n0_ := Aside0.mk (Kd.R_elder' (by (with_reducible repeat (first | apply Kd.R_alloc | apply Kd.R_drewN | apply Kd.R_drew)); exact HO108.out) (Kd.R_base ho0) hb)
  have n1_ := Aside0.mk (Kd.R_lower (Kd.R_new' ho0 (Kd.R_lt (by (with_reducible repeat (first | apply Kd.R_alloc | apply Kd.R_drewN | apply Kd.R_drew)); exact HO108.out))) (below_size (by repeat (first | (with_reducible first | exact HB.out | apply below_alloc | apply pw_below_drewN | apply below_drew1 | refine below_set ?_ GE101.out | refine below_set ?_ GE102.out) | exact HB.out))))
  have n2_ := Aside0.mk (blk_below (g := gb101) (o := .cells #[.int .i64 a0_0, .int .u64 a0_1, .int .u64 a0_2, .int .u64 a0_3, .int .u64 a0_4, .slice A0_5 l0_5.length c0_5, .slice A0_6 l0_6.length c0_6, .slice A0_7 l0_7.length c0_7, .slice A0_8 l0_8.length c0_8] 30 (0, 0)) (by (with_reducible repeat (first | refine blk_drewN ?_ _ | refine blk_drew ?_ | refine blk_alloc ?_ _)); exact BK101.out) hb)
  have n3_ := Aside0.mk (blk_below (g := gb102) (o := .cells #[.int .i64 0, .int .u64 0, .int .u64 0, .int .u64 0, .int .u64 0, .slice none 0 0, .slice none 0 0, .slice none 0 0, .slice none 0 0] 46 (0, 0)) (by (with_reducible repeat (first | refine blk_drewN ?_ _ | refine blk_drew ?_ | refine blk_alloc ?_ _)); exact BK102.out) hb)
  have n4_ := Aside0.mk (below_step (by repeat (first | (with_reducible first | exact HB.out | apply below_alloc | apply pw_below_drewN | apply below_drew1 | refine below_set ?_ GE101.out | refine below_set ?_ GE102.out) | exact HB.out)) hb)
  clear HO108
  clear BK101
  clear BK102
  clear HB
  have HO108 := n0_
  have HO111 := n1_
  have BK101 := n2_
  have BK102 := n3_
  have HB := n4_
  clear n0_ n1_ n2_ n3_ n4_
  (try clear hb)
  (try clear hb2)
  (try clear hk)
  (try clear hi)
  (try clear ho0)
  refine hK.out _ _ ⟨(blk_cell BK101.out 0).trans rfl, (blk_cell BK101.out 1).trans rfl, (blk_cell BK101.out 2).trans rfl, (blk_cell BK101.out 3).trans rfl, (blk_cell BK101.out 4).trans rfl, (blk_cell BK101.out 5).trans rfl, (blk_cell BK101.out 6).trans rfl, (blk_cell BK101.out 7).trans rfl, (blk_cell BK101.out 8).trans rfl⟩ (fun hHeld => ?_)
  clear hK K
  refine norm_ (a' := ?_) ?_ ?_
  rotate_left
  ·show Act.put _ (some 28) _ = _
   simp only [Act.put, List.setIfInBounds_toArray, List.set_cons_zero, List.set_cons_succ, i64_w, i32_w]
   rfl
  refine one_ (i := 20) (N := some 31) #[true, true, true, true, true, true, true, true, true, true, true, true, true, true, true, true, true, true, true, true, true, true, true, false, false, false, false] rfl rfl (one_of HT_.out (by kernel_rfl)) (by decide) (fun K hK => ?_)
  refine goes_ Try.func81 (by kernel_rfl) rfl #[.slice A0_7 l0_7.length c0_7] (by rfl) rfl rfl (by (try simp only [List.map_toArray, List.map_cons, List.map_nil]); first | done | rfl | (simp only [List.length_drop, List.length_take]; rfl)) ?_
  with_reducible refine (fhist_floats.calls _ _ l0_7 t112 _ ?side1 ?side2 A8.out).mono ?_
  (case side1 => repeat (first | exact (Kd.C_below HR0_7.out HB.out) | (with_reducible refine Kd.C_alloc ?_ _) | (with_reducible refine Kd.C_drewN ?_ _) | (with_reducible refine Kd.C_drew ?_)))
  (case side2 => exact HC0_7.out)
  rintro e w18 ⟨v113, rfl, ho0, hb⟩
  refine ⟨_, rfl, ?_⟩
  have n0_ := Aside0.mk (Kd.R_below (by (with_reducible repeat (first | apply Kd.R_alloc | apply Kd.R_drewN | apply Kd.R_drew)); exact HO108.out) hb)
  have n1_ := Aside0.mk (Kd.R_below (by (with_reducible repeat (first | apply Kd.R_alloc | apply Kd.R_drewN | apply Kd.R_drew)); exact HO111.out) hb)
  have n2_ := Aside0.mk (Kd.R_lower ho0 (below_size (by repeat (first | (with_reducible first | exact HB.out | apply below_alloc | apply pw_below_drewN | apply below_drew1 | refine below_set ?_ GE101.out | refine below_set ?_ GE102.out) | exact HB.out))))
  have n3_ := Aside0.mk (blk_below (g := gb101) (o := .cells #[.int .i64 a0_0, .int .u64 a0_1, .int .u64 a0_2, .int .u64 a0_3, .int .u64 a0_4, .slice A0_5 l0_5.length c0_5, .slice A0_6 l0_6.length c0_6, .slice A0_7 l0_7.length c0_7, .slice A0_8 l0_8.length c0_8] 30 (0, 0)) (by (with_reducible repeat (first | refine blk_drewN ?_ _ | refine blk_drew ?_ | refine blk_alloc ?_ _)); exact BK101.out) hb)
  have n4_ := Aside0.mk (blk_below (g := gb102) (o := .cells #[.int .i64 0, .int .u64 0, .int .u64 0, .int .u64 0, .int .u64 0, .slice none 0 0, .slice none 0 0, .slice none 0 0, .slice none 0 0] 46 (0, 0)) (by (with_reducible repeat (first | refine blk_drewN ?_ _ | refine blk_drew ?_ | refine blk_alloc ?_ _)); exact BK102.out) hb)
  have n5_ := Aside0.mk (below_step (by repeat (first | (with_reducible first | exact HB.out | apply below_alloc | apply pw_below_drewN | apply below_drew1 | refine below_set ?_ GE101.out | refine below_set ?_ GE102.out) | exact HB.out)) hb)
  clear HO108
  clear HO111
  clear BK101
  clear BK102
  clear HB
  have HO108 := n0_
  have HO111 := n1_
  have HO114 := n2_
  have BK101 := n3_
  have BK102 := n4_
  have HB := n5_
  clear n0_ n1_ n2_ n3_ n4_ n5_
  (try clear hb)
  (try clear hb2)
  (try clear hk)
  (try clear hi)
  (try clear ho0)
  refine hK.out _ _ ⟨(blk_cell BK101.out 0).trans rfl, (blk_cell BK101.out 1).trans rfl, (blk_cell BK101.out 2).trans rfl, (blk_cell BK101.out 3).trans rfl, (blk_cell BK101.out 4).trans rfl, (blk_cell BK101.out 5).trans rfl, (blk_cell BK101.out 6).trans rfl, (blk_cell BK101.out 7).trans rfl, (blk_cell BK101.out 8).trans rfl⟩ (fun hHeld => ?_)
  clear hK K
  refine norm_ (a' := ?_) ?_ ?_
  rotate_left
  ·show Act.put _ (some 31) _ = _
   simp only [Act.put, List.setIfInBounds_toArray, List.set_cons_zero, List.set_cons_succ, i64_w, i32_w]
   rfl
  refine one_ (i := 23) (N := some 34) #[true, true, true, true, true, true, true, true, true, true, true, true, true, true, true, true, true, true, true, true, true, true, true, true, false, false, false] rfl rfl (one_of HT_.out (by kernel_rfl)) (by decide) (fun K hK => ?_)
  refine goes_ Try.func81 (by kernel_rfl) rfl #[.slice A0_8 l0_8.length c0_8] (by rfl) rfl rfl (by (try simp only [List.map_toArray, List.map_cons, List.map_nil]); first | done | rfl | (simp only [List.length_drop, List.length_take]; rfl)) ?_
  with_reducible refine (fhist_floats.calls _ _ l0_8 t115 _ ?side1 ?side2 A9.out).mono ?_
  (case side1 => repeat (first | exact (Kd.C_below HR0_8.out HB.out) | (with_reducible refine Kd.C_alloc ?_ _) | (with_reducible refine Kd.C_drewN ?_ _) | (with_reducible refine Kd.C_drew ?_)))
  (case side2 => exact HC0_8.out)
  rintro e w19 ⟨v116, rfl, ho0, hb⟩
  refine ⟨_, rfl, ?_⟩
  have n0_ := Aside0.mk (Kd.R_below (by (with_reducible repeat (first | apply Kd.R_alloc | apply Kd.R_drewN | apply Kd.R_drew)); exact HO108.out) hb)
  have n1_ := Aside0.mk (Kd.R_below (by (with_reducible repeat (first | apply Kd.R_alloc | apply Kd.R_drewN | apply Kd.R_drew)); exact HO111.out) hb)
  have n2_ := Aside0.mk (Kd.R_elder' (by (with_reducible repeat (first | apply Kd.R_alloc | apply Kd.R_drewN | apply Kd.R_drew)); exact HO114.out) (Kd.R_base ho0) hb)
  have n3_ := Aside0.mk (Kd.R_lower (Kd.R_new' ho0 (Kd.R_lt (by (with_reducible repeat (first | apply Kd.R_alloc | apply Kd.R_drewN | apply Kd.R_drew)); exact HO114.out))) (below_size (by repeat (first | (with_reducible first | exact HB.out | apply below_alloc | apply pw_below_drewN | apply below_drew1 | refine below_set ?_ GE101.out | refine below_set ?_ GE102.out) | exact HB.out))))
  have n4_ := Aside0.mk (blk_below (g := gb101) (o := .cells #[.int .i64 a0_0, .int .u64 a0_1, .int .u64 a0_2, .int .u64 a0_3, .int .u64 a0_4, .slice A0_5 l0_5.length c0_5, .slice A0_6 l0_6.length c0_6, .slice A0_7 l0_7.length c0_7, .slice A0_8 l0_8.length c0_8] 30 (0, 0)) (by (with_reducible repeat (first | refine blk_drewN ?_ _ | refine blk_drew ?_ | refine blk_alloc ?_ _)); exact BK101.out) hb)
  have n5_ := Aside0.mk (blk_below (g := gb102) (o := .cells #[.int .i64 0, .int .u64 0, .int .u64 0, .int .u64 0, .int .u64 0, .slice none 0 0, .slice none 0 0, .slice none 0 0, .slice none 0 0] 46 (0, 0)) (by (with_reducible repeat (first | refine blk_drewN ?_ _ | refine blk_drew ?_ | refine blk_alloc ?_ _)); exact BK102.out) hb)
  have n6_ := Aside0.mk (below_step (by repeat (first | (with_reducible first | exact HB.out | apply below_alloc | apply pw_below_drewN | apply below_drew1 | refine below_set ?_ GE101.out | refine below_set ?_ GE102.out) | exact HB.out)) hb)
  clear HO108
  clear HO111
  clear HO114
  clear BK101
  clear BK102
  clear HB
  have HO108 := n0_
  have HO111 := n1_
  have HO114 := n2_
  have HO117 := n3_
  have BK101 := n4_
  have BK102 := n5_
  have HB := n6_
  clear n0_ n1_ n2_ n3_ n4_ n5_ n6_
  (try clear hb)
  (try clear hb2)
  (try clear hk)
  (try clear hi)
  (try clear ho0)
  obtain ⟨Ao20, co20, eo20⟩ := Kd.R_slice HO117.out
  (first | subst eo20 | (injection eo20 with f1_ f2_ f3_; have f4_ := f1_.symm; have f5_ := f3_.symm; clear f1_ f2_ f3_; subst f4_; subst f5_))
  obtain ⟨Ao21, co21, eo21⟩ := Kd.R_slice HO114.out
  (first | subst eo21 | (injection eo21 with f1_ f2_ f3_; have f4_ := f1_.symm; have f5_ := f3_.symm; clear f1_ f2_ f3_; subst f4_; subst f5_))
  obtain ⟨Ao22, co22, eo22⟩ := Kd.R_slice HO111.out
  (first | subst eo22 | (injection eo22 with f1_ f2_ f3_; have f4_ := f1_.symm; have f5_ := f3_.symm; clear f1_ f2_ f3_; subst f4_; subst f5_))
  obtain ⟨Ao23, co23, eo23⟩ := Kd.R_slice HO108.out
  (first | subst eo23 | (injection eo23 with f1_ f2_ f3_; have f4_ := f1_.symm; have f5_ := f3_.symm; clear f1_ f2_ f3_; subst f4_; subst f5_))
  refine hK.out _ _ ⟨(blk_cell BK101.out 0).trans rfl, (blk_cell BK101.out 1).trans rfl, (blk_cell BK101.out 2).trans rfl, (blk_cell BK101.out 3).trans rfl, (blk_cell BK101.out 4).trans rfl, (blk_cell BK101.out 5).trans rfl, (blk_cell BK101.out 6).trans rfl, (blk_cell BK101.out 7).trans rfl, (blk_cell BK101.out 8).trans rfl⟩ (fun hHeld => ?_)
  clear hK K
  refine norm_ (a' := ?_) ?_ ?_
  rotate_left
  ·show Act.put _ (some 34) _ = _
   simp only [Act.put, List.setIfInBounds_toArray, List.set_cons_zero, List.set_cons_succ, i64_w, i32_w]
   rfl
  refine pure_ (i := 24) (N := some 35) (v := ?_) (a' := ?_) #[true, true, true, true, true, true, true, true, true, true, true, true, true, true, true, true, true, true, true, true, true, true, true, true, true, false, false] rfl rfl (any_of HT_.out (by kernel_rfl)) (fun _ _ _ h => h) (Or.inl ⟨by rfl, ?_⟩) ?_ ?_
  rotate_left
  ·intro w'
   go_simp
   with_reducible rfl
  rotate_left
  ·simp only [Act.put, List.setIfInBounds_toArray, List.set_cons_zero, List.set_cons_succ, i64_w, i32_w]
   rfl
  refine one_ (i := 25) (N := none) #[true, true, true, true, true, true, true, true, true, true, true, true, true, true, true, true, true, true, true, true, true, true, true, true, true, true, false] rfl rfl (one_of HT_.out (by kernel_rfl)) (by decide) (fun K hK => ?_)
  have hs24 : w19.cell? ⟨gb102, 0, none⟩ = some (.int .i64 0) := (blk_cell BK102.out 0).trans rfl
  have hfs24 := blk_frozen BK102.out 0
  have hns24_0 := NB101_102.out
  have hms24_0 := NB102_101.out
  have hs25 : w19.cell? ⟨gb102, 1, none⟩ = some (.int .u64 0) := (blk_cell BK102.out 1).trans rfl
  have hfs25 := blk_frozen BK102.out 1
  have hns25_0 := NB101_102.out
  have hms25_0 := NB102_101.out
  have hs26 : w19.cell? ⟨gb102, 2, none⟩ = some (.int .u64 0) := (blk_cell BK102.out 2).trans rfl
  have hfs26 := blk_frozen BK102.out 2
  have hns26_0 := NB101_102.out
  have hms26_0 := NB102_101.out
  have hs27 : w19.cell? ⟨gb102, 3, none⟩ = some (.int .u64 0) := (blk_cell BK102.out 3).trans rfl
  have hfs27 := blk_frozen BK102.out 3
  have hns27_0 := NB101_102.out
  have hms27_0 := NB102_101.out
  have hs28 : w19.cell? ⟨gb102, 4, none⟩ = some (.int .u64 0) := (blk_cell BK102.out 4).trans rfl
  have hfs28 := blk_frozen BK102.out 4
  have hns28_0 := NB101_102.out
  have hms28_0 := NB102_101.out
  have hs29 : w19.cell? ⟨gb102, 5, none⟩ = some (.slice none 0 0) := (blk_cell BK102.out 5).trans rfl
  have hfs29 := blk_frozen BK102.out 5
  have hns29_0 := NB101_102.out
  have hms29_0 := NB102_101.out
  have hs30 : w19.cell? ⟨gb102, 6, none⟩ = some (.slice none 0 0) := (blk_cell BK102.out 6).trans rfl
  have hfs30 := blk_frozen BK102.out 6
  have hns30_0 := NB101_102.out
  have hms30_0 := NB102_101.out
  have hs31 : w19.cell? ⟨gb102, 7, none⟩ = some (.slice none 0 0) := (blk_cell BK102.out 7).trans rfl
  have hfs31 := blk_frozen BK102.out 7
  have hns31_0 := NB101_102.out
  have hms31_0 := NB102_101.out
  have hs32 : w19.cell? ⟨gb102, 8, none⟩ = some (.slice none 0 0) := (blk_cell BK102.out 8).trans rfl
  have hfs32 := blk_frozen BK102.out 8
  have hns32_0 := NB101_102.out
  have hms32_0 := NB102_101.out
  refine skip_ (w1 := ?_) (by rfl) rfl ?_ ?_
  rotate_left
  ·go_simp
   rfl
  refine hK.out _ _ ⟨((cell_far (p := ⟨gb102, _, none⟩) NB101_102.out _).trans (((cell_far (p := ⟨gb102, _, none⟩) NB101_102.out _).trans (((cell_far (p := ⟨gb102, _, none⟩) NB101_102.out _).trans (((cell_far (p := ⟨gb102, _, none⟩) NB101_102.out _).trans (((cell_far (p := ⟨gb102, _, none⟩) NB101_102.out _).trans (((cell_far (p := ⟨gb102, _, none⟩) NB101_102.out _).trans (((cell_far (p := ⟨gb102, _, none⟩) NB101_102.out _).trans (((cell_far (p := ⟨gb102, _, none⟩) NB101_102.out _).trans (((cell_far (p := ⟨gb102, _, none⟩) NB101_102.out _).trans (hHeld.1)))))))))))))))))), ((cell_far (p := ⟨gb102, _, none⟩) NB101_102.out _).trans (((cell_far (p := ⟨gb102, _, none⟩) NB101_102.out _).trans (((cell_far (p := ⟨gb102, _, none⟩) NB101_102.out _).trans (((cell_far (p := ⟨gb102, _, none⟩) NB101_102.out _).trans (((cell_far (p := ⟨gb102, _, none⟩) NB101_102.out _).trans (((cell_far (p := ⟨gb102, _, none⟩) NB101_102.out _).trans (((cell_far (p := ⟨gb102, _, none⟩) NB101_102.out _).trans (((cell_far (p := ⟨gb102, _, none⟩) NB101_102.out _).trans (((cell_far (p := ⟨gb102, _, none⟩) NB101_102.out _).trans (hHeld.2.1)))))))))))))))))), ((cell_far (p := ⟨gb102, _, none⟩) NB101_102.out _).trans (((cell_far (p := ⟨gb102, _, none⟩) NB101_102.out _).trans (((cell_far (p := ⟨gb102, _, none⟩) NB101_102.out _).trans (((cell_far (p := ⟨gb102, _, none⟩) NB101_102.out _).trans (((cell_far (p := ⟨gb102, _, none⟩) NB101_102.out _).trans (((cell_far (p := ⟨gb102, _, none⟩) NB101_102.out _).trans (((cell_far (p := ⟨gb102, _, none⟩) NB101_102.out _).trans (((cell_far (p := ⟨gb102, _, none⟩) NB101_102.out _).trans (((cell_far (p := ⟨gb102, _, none⟩) NB101_102.out _).trans (hHeld.2.2.1)))))))))))))))))), ((cell_far (p := ⟨gb102, _, none⟩) NB101_102.out _).trans (((cell_far (p := ⟨gb102, _, none⟩) NB101_102.out _).trans (((cell_far (p := ⟨gb102, _, none⟩) NB101_102.out _).trans (((cell_far (p := ⟨gb102, _, none⟩) NB101_102.out _).trans (((cell_far (p := ⟨gb102, _, none⟩) NB101_102.out _).trans (((cell_far (p := ⟨gb102, _, none⟩) NB101_102.out _).trans (((cell_far (p := ⟨gb102, _, none⟩) NB101_102.out _).trans (((cell_far (p := ⟨gb102, _, none⟩) NB101_102.out _).trans (((cell_far (p := ⟨gb102, _, none⟩) NB101_102.out _).trans (hHeld.2.2.2.1)))))))))))))))))), ((cell_far (p := ⟨gb102, _, none⟩) NB101_102.out _).trans (((cell_far (p := ⟨gb102, _, none⟩) NB101_102.out _).trans (((cell_far (p := ⟨gb102, _, none⟩) NB101_102.out _).trans (((cell_far (p := ⟨gb102, _, none⟩) NB101_102.out _).trans (((cell_far (p := ⟨gb102, _, none⟩) NB101_102.out _).trans (((cell_far (p := ⟨gb102, _, none⟩) NB101_102.out _).trans (((cell_far (p := ⟨gb102, _, none⟩) NB101_102.out _).trans (((cell_far (p := ⟨gb102, _, none⟩) NB101_102.out _).trans (((cell_far (p := ⟨gb102, _, none⟩) NB101_102.out _).trans (hHeld.2.2.2.2.1)))))))))))))))))), ((cell_far (p := ⟨gb102, _, none⟩) NB101_102.out _).trans (((cell_far (p := ⟨gb102, _, none⟩) NB101_102.out _).trans (((cell_far (p := ⟨gb102, _, none⟩) NB101_102.out _).trans (((cell_far (p := ⟨gb102, _, none⟩) NB101_102.out _).trans (((cell_far (p := ⟨gb102, _, none⟩) NB101_102.out _).trans (((cell_far (p := ⟨gb102, _, none⟩) NB101_102.out _).trans (((cell_far (p := ⟨gb102, _, none⟩) NB101_102.out _).trans (((cell_far (p := ⟨gb102, _, none⟩) NB101_102.out _).trans (((cell_far (p := ⟨gb102, _, none⟩) NB101_102.out _).trans (hHeld.2.2.2.2.2.1)))))))))))))))))), ((cell_far (p := ⟨gb102, _, none⟩) NB101_102.out _).trans (((cell_far (p := ⟨gb102, _, none⟩) NB101_102.out _).trans (((cell_far (p := ⟨gb102, _, none⟩) NB101_102.out _).trans (((cell_far (p := ⟨gb102, _, none⟩) NB101_102.out _).trans (((cell_far (p := ⟨gb102, _, none⟩) NB101_102.out _).trans (((cell_far (p := ⟨gb102, _, none⟩) NB101_102.out _).trans (((cell_far (p := ⟨gb102, _, none⟩) NB101_102.out _).trans (((cell_far (p := ⟨gb102, _, none⟩) NB101_102.out _).trans (((cell_far (p := ⟨gb102, _, none⟩) NB101_102.out _).trans (hHeld.2.2.2.2.2.2.1)))))))))))))))))), ((cell_far (p := ⟨gb102, _, none⟩) NB101_102.out _).trans (((cell_far (p := ⟨gb102, _, none⟩) NB101_102.out _).trans (((cell_far (p := ⟨gb102, _, none⟩) NB101_102.out _).trans (((cell_far (p := ⟨gb102, _, none⟩) NB101_102.out _).trans (((cell_far (p := ⟨gb102, _, none⟩) NB101_102.out _).trans (((cell_far (p := ⟨gb102, _, none⟩) NB101_102.out _).trans (((cell_far (p := ⟨gb102, _, none⟩) NB101_102.out _).trans (((cell_far (p := ⟨gb102, _, none⟩) NB101_102.out _).trans (((cell_far (p := ⟨gb102, _, none⟩) NB101_102.out _).trans (hHeld.2.2.2.2.2.2.2.1)))))))))))))))))), ((cell_far (p := ⟨gb102, _, none⟩) NB101_102.out _).trans (((cell_far (p := ⟨gb102, _, none⟩) NB101_102.out _).trans (((cell_far (p := ⟨gb102, _, none⟩) NB101_102.out _).trans (((cell_far (p := ⟨gb102, _, none⟩) NB101_102.out _).trans (((cell_far (p := ⟨gb102, _, none⟩) NB101_102.out _).trans (((cell_far (p := ⟨gb102, _, none⟩) NB101_102.out _).trans (((cell_far (p := ⟨gb102, _, none⟩) NB101_102.out _).trans (((cell_far (p := ⟨gb102, _, none⟩) NB101_102.out _).trans (((cell_far (p := ⟨gb102, _, none⟩) NB101_102.out _).trans (hHeld.2.2.2.2.2.2.2.2))))))))))))))))))⟩ (fun hHeld => ?_)
  clear hK K
  refine pure_ (i := 26) (N := some 3) (v := ?_) (a' := ?_) #[true, true, true, true, true, true, true, true, true, true, true, true, true, true, true, true, true, true, true, true, true, true, true, true, true, true, true] rfl rfl (any_of HT_.out (by kernel_rfl)) (fun _ _ _ h => h) (Or.inl ⟨by rfl, ?_⟩) ?_ ?_
  rotate_left
  ·intro w'
   go_simp
   with_reducible rfl
  rotate_left
  ·simp only [Act.put, List.setIfInBounds_toArray, List.set_cons_zero, List.set_cons_succ, i64_w, i32_w]
   rfl
  refine done_ (done_of HT_.out (by kernel_rfl)) ?_
  try go_wp2
  refine bodyPost_ret (results_ct rfl _ _ gb102 46 #[.int .i64 a0_0, .int .u64 a0_1, .int .u64 t104, .int .u64 t105, .int .u64 a0_4, .slice Ao23 t106.length co23, .slice Ao22 t109.length co22, .slice Ao21 t112.length co21, .slice Ao20 t115.length co20] (0, 0) _ rfl (by (with_reducible repeat (first | refine blk_drewN ?_ _ | refine blk_drew ?_ | refine blk_alloc ?_ _)); refine blk_put (cs := #[.int .i64 a0_0, .int .u64 a0_1, .int .u64 t104, .int .u64 t105, .int .u64 a0_4, .slice Ao23 t106.length co23, .slice Ao22 t109.length co22, .slice Ao21 t112.length co21, .slice none 0 0]) ?_ 8 _ rfl; (with_reducible repeat (first | refine blk_drewN ?_ _ | refine blk_drew ?_ | refine blk_alloc ?_ _)); refine blk_put (cs := #[.int .i64 a0_0, .int .u64 a0_1, .int .u64 t104, .int .u64 t105, .int .u64 a0_4, .slice Ao23 t106.length co23, .slice Ao22 t109.length co22, .slice none 0 0, .slice none 0 0]) ?_ 7 _ rfl; (with_reducible repeat (first | refine blk_drewN ?_ _ | refine blk_drew ?_ | refine blk_alloc ?_ _)); refine blk_put (cs := #[.int .i64 a0_0, .int .u64 a0_1, .int .u64 t104, .int .u64 t105, .int .u64 a0_4, .slice Ao23 t106.length co23, .slice none 0 0, .slice none 0 0, .slice none 0 0]) ?_ 6 _ rfl; (with_reducible repeat (first | refine blk_drewN ?_ _ | refine blk_drew ?_ | refine blk_alloc ?_ _)); refine blk_put (cs := #[.int .i64 a0_0, .int .u64 a0_1, .int .u64 t104, .int .u64 t105, .int .u64 a0_4, .slice none 0 0, .slice none 0 0, .slice none 0 0, .slice none 0 0]) ?_ 5 _ rfl; (with_reducible repeat (first | refine blk_drewN ?_ _ | refine blk_drew ?_ | refine blk_alloc ?_ _)); refine blk_put (cs := #[.int .i64 a0_0, .int .u64 a0_1, .int .u64 t104, .int .u64 t105, .int .u64 0, .slice none 0 0, .slice none 0 0, .slice none 0 0, .slice none 0 0]) ?_ 4 _ rfl; (with_reducible repeat (first | refine blk_drewN ?_ _ | refine blk_drew ?_ | refine blk_alloc ?_ _)); refine blk_put (cs := #[.int .i64 a0_0, .int .u64 a0_1, .int .u64 t104, .int .u64 0, .int .u64 0, .slice none 0 0, .slice none 0 0, .slice none 0 0, .slice none 0 0]) ?_ 3 _ rfl; (with_reducible repeat (first | refine blk_drewN ?_ _ | refine blk_drew ?_ | refine blk_alloc ?_ _)); refine blk_put (cs := #[.int .i64 a0_0, .int .u64 a0_1, .int .u64 0, .int .u64 0, .int .u64 0, .slice none 0 0, .slice none 0 0, .slice none 0 0, .slice none 0 0]) ?_ 2 _ rfl; (with_reducible repeat (first | refine blk_drewN ?_ _ | refine blk_drew ?_ | refine blk_alloc ?_ _)); refine blk_put (cs := #[.int .i64 a0_0, .int .u64 0, .int .u64 0, .int .u64 0, .int .u64 0, .slice none 0 0, .slice none 0 0, .slice none 0 0, .slice none 0 0]) ?_ 1 _ rfl; (with_reducible repeat (first | refine blk_drewN ?_ _ | refine blk_drew ?_ | refine blk_alloc ?_ _)); refine blk_put (cs := #[.int .i64 0, .int .u64 0, .int .u64 0, .int .u64 0, .int .u64 0, .slice none 0 0, .slice none 0 0, .slice none 0 0, .slice none 0 0]) ?_ 0 _ rfl; (with_reducible repeat (first | refine blk_drewN ?_ _ | refine blk_drew ?_ | refine blk_alloc ?_ _)); exact BK102.out) Try.underlying46 rfl (by kernel_rfl)) rfl ?_
  exact ⟨_, _, _, _, by first | rfl | (simp [errW_none, errW_some] <;> rfl) | (simp [*, errW_none, errW_some] <;> rfl), by (with_reducible repeat (first | apply Kd.R_alloc | apply Kd.R_drewN | apply Kd.R_drew)); exact Kd.R_mono (Kd.R_far (p := ⟨gb102, 8, none⟩) (Kd.R_far (p := ⟨gb102, 7, none⟩) (Kd.R_far (p := ⟨gb102, 6, none⟩) (Kd.R_far (p := ⟨gb102, 5, none⟩) (Kd.R_far (p := ⟨gb102, 4, none⟩) (Kd.R_far (p := ⟨gb102, 3, none⟩) (Kd.R_far (p := ⟨gb102, 2, none⟩) (Kd.R_far (p := ⟨gb102, 1, none⟩) (Kd.R_far (p := ⟨gb102, 0, none⟩) (Kd.R_types HO108.out BK102.out (by decide)) (fun _ hk => hk.2) (.int .i64 a0_0)) (fun _ hk => hk.2) (.int .u64 a0_1)) (fun _ hk => hk.2) (.int .u64 t104)) (fun _ hk => hk.2) (.int .u64 t105)) (fun _ hk => hk.2) (.int .u64 a0_4)) (fun _ hk => hk.2) (.slice Ao23 t106.length co23)) (fun _ hk => hk.2) (.slice Ao22 t109.length co22)) (fun _ hk => hk.2) (.slice Ao21 t112.length co21)) (fun _ hk => hk.2) (.slice Ao20 t115.length co20)) (fun _ hk => hk.1.2), by (with_reducible repeat (first | apply Kd.R_alloc | apply Kd.R_drewN | apply Kd.R_drew)); exact Kd.R_mono (Kd.R_far (p := ⟨gb102, 8, none⟩) (Kd.R_far (p := ⟨gb102, 7, none⟩) (Kd.R_far (p := ⟨gb102, 6, none⟩) (Kd.R_far (p := ⟨gb102, 5, none⟩) (Kd.R_far (p := ⟨gb102, 4, none⟩) (Kd.R_far (p := ⟨gb102, 3, none⟩) (Kd.R_far (p := ⟨gb102, 2, none⟩) (Kd.R_far (p := ⟨gb102, 1, none⟩) (Kd.R_far (p := ⟨gb102, 0, none⟩) (Kd.R_types HO111.out BK102.out (by decide)) (fun _ hk => hk.2) (.int .i64 a0_0)) (fun _ hk => hk.2) (.int .u64 a0_1)) (fun _ hk => hk.2) (.int .u64 t104)) (fun _ hk => hk.2) (.int .u64 t105)) (fun _ hk => hk.2) (.int .u64 a0_4)) (fun _ hk => hk.2) (.slice Ao23 t106.length co23)) (fun _ hk => hk.2) (.slice Ao22 t109.length co22)) (fun _ hk => hk.2) (.slice Ao21 t112.length co21)) (fun _ hk => hk.2) (.slice Ao20 t115.length co20)) (fun _ hk => hk.1.2), by (with_reducible repeat (first | apply Kd.R_alloc | apply Kd.R_drewN | apply Kd.R_drew)); exact Kd.R_mono (Kd.R_far (p := ⟨gb102, 8, none⟩) (Kd.R_far (p := ⟨gb102, 7, none⟩) (Kd.R_far (p := ⟨gb102, 6, none⟩) (Kd.R_far (p := ⟨gb102, 5, none⟩) (Kd.R_far (p := ⟨gb102, 4, none⟩) (Kd.R_far (p := ⟨gb102, 3, none⟩) (Kd.R_far (p := ⟨gb102, 2, none⟩) (Kd.R_far (p := ⟨gb102, 1, none⟩) (Kd.R_far (p := ⟨gb102, 0, none⟩) (Kd.R_types HO114.out BK102.out (by decide)) (fun _ hk => hk.2) (.int .i64 a0_0)) (fun _ hk => hk.2) (.int .u64 a0_1)) (fun _ hk => hk.2) (.int .u64 t104)) (fun _ hk => hk.2) (.int .u64 t105)) (fun _ hk => hk.2) (.int .u64 a0_4)) (fun _ hk => hk.2) (.slice Ao23 t106.length co23)) (fun _ hk => hk.2) (.slice Ao22 t109.length co22)) (fun _ hk => hk.2) (.slice Ao21 t112.length co21)) (fun _ hk => hk.2) (.slice Ao20 t115.length co20)) (fun _ hk => hk.1.2), by (with_reducible repeat (first | apply Kd.R_alloc | apply Kd.R_drewN | apply Kd.R_drew)); exact Kd.R_mono (Kd.R_far (p := ⟨gb102, 8, none⟩) (Kd.R_far (p := ⟨gb102, 7, none⟩) (Kd.R_far (p := ⟨gb102, 6, none⟩) (Kd.R_far (p := ⟨gb102, 5, none⟩) (Kd.R_far (p := ⟨gb102, 4, none⟩) (Kd.R_far (p := ⟨gb102, 3, none⟩) (Kd.R_far (p := ⟨gb102, 2, none⟩) (Kd.R_far (p := ⟨gb102, 1, none⟩) (Kd.R_far (p := ⟨gb102, 0, none⟩) (Kd.R_types HO117.out BK102.out (by decide)) (fun _ hk => hk.2) (.int .i64 a0_0)) (fun _ hk => hk.2) (.int .u64 a0_1)) (fun _ hk => hk.2) (.int .u64 t104)) (fun _ hk => hk.2) (.int .u64 t105)) (fun _ hk => hk.2) (.int .u64 a0_4)) (fun _ hk => hk.2) (.slice Ao23 t106.length co23)) (fun _ hk => hk.2) (.slice Ao22 t109.length co22)) (fun _ hk => hk.2) (.slice Ao21 t112.length co21)) (fun _ hk => hk.2) (.slice Ao20 t115.length co20)) (fun _ hk => hk.1.2), by repeat (first | (with_reducible first | exact HB.out | apply below_alloc | apply pw_below_drewN | apply below_drew1 | refine below_set ?_ GE101.out | refine below_set ?_ GE102.out) | exact HB.out)⟩
 ·rw [if_neg c3] at H
  have c3b0 : (t103 == 0) = false := beq_eq_false_iff_ne.mpr c3
  have c3b1 : (t103 != 0) = true := bne_iff_ne.mpr c3
  simp only [Option.some.injEq, Prod.mk.injEq] at H
  obtain ⟨rfl, rfl, rfl, rfl, rfl, rfl, rfl, rfl, rfl, rfl⟩ := H
  go_enter Try.func36, Try.ntmps36
  go_wp2_with (first | ((with_reducible refine gate_dst (N := 1) rfl ?_); refine box_event ?hg (N := 1) ?hd (cs := #[.int .i64 a0_0, .int .u64 a0_1, .int .u64 a0_2, .int .u64 a0_3, .int .u64 a0_4, .slice A0_5 l0_5.length c0_5, .slice A0_6 l0_6.length c0_6, .slice A0_7 l0_7.length c0_7, .slice A0_8 l0_8.length c0_8]) (t := 30) ?hr ?_; (case hd => rfl); (case hg => rfl); (case hr => first | (go_simp; done) | (go_simp; rfl)); intro gb101 hg w33 hbox hb; have n0_ := Aside0.mk (below_step (by repeat (first | (with_reducible first | exact HB.out | apply below_alloc | apply pw_below_drewN | apply below_drew1) | exact HB.out)) hb); have n1_ := Aside0.mk (hbox); have n2_ := Aside0.mk ((by rw [hg]; exact (below_size (by repeat (first | (with_reducible first | exact HB.out | apply below_alloc | apply pw_below_drewN | apply below_drew1) | exact HB.out))) : w.heap.size ≤ gb101)); have n3_ := Aside0.mk ((by rw [hg]; exact (below_size (by repeat (first | (with_reducible first | exact HB.out | apply below_alloc | apply pw_below_drewN | apply below_drew1) | exact HB.out))) : w.heap.size ≤ gb101)); clear HB; have HB := n0_; have BK101 := n1_; have GW101 := n2_; have GE101 := n3_; clear n0_ n1_ n2_ n3_; clear hb hbox hg) | ((with_reducible refine gate_dst (N := 2) rfl ?_); refine box_event ?hg (N := 2) ?hd (cs := #[.int .i64 0, .int .u64 0, .int .u64 0, .int .u64 0, .int .u64 0, .slice none 0 0, .slice none 0 0, .slice none 0 0, .slice none 0 0]) (t := 46) ?hr ?_; (case hd => rfl); (case hg => rfl); (case hr => first | (go_simp; done) | (go_simp; rfl)); intro gb102 hg w34 hbox hb; have n0_ := Aside0.mk (blk_below (g := gb101) (o := .cells #[.int .i64 a0_0, .int .u64 a0_1, .int .u64 a0_2, .int .u64 a0_3, .int .u64 a0_4, .slice A0_5 l0_5.length c0_5, .slice A0_6 l0_6.length c0_6, .slice A0_7 l0_7.length c0_7, .slice A0_8 l0_8.length c0_8] 30 (0, 0)) (by (with_reducible repeat (first | refine blk_drewN ?_ _ | refine blk_drew ?_ | refine blk_alloc ?_ _)); exact BK101.out) hb); have n1_ := Aside0.mk (below_step (by repeat (first | (with_reducible first | exact HB.out | apply below_alloc | apply pw_below_drewN | apply below_drew1 | refine below_set ?_ GE101.out) | exact HB.out)) hb); have n2_ := Aside0.mk (hbox); have n3_ := Aside0.mk ((by rw [hg]; exact (below_size (by repeat (first | (with_reducible first | exact HB.out | apply below_alloc | apply pw_below_drewN | apply below_drew1 | refine below_set ?_ GE101.out) | exact HB.out))) : w.heap.size ≤ gb102)); have n4_ := Aside0.mk ((by rw [hg]; exact (below_size (by repeat (first | (with_reducible first | exact HB.out | apply below_alloc | apply pw_below_drewN | apply below_drew1 | refine below_set ?_ GE101.out) | exact HB.out))) : w.heap.size ≤ gb102)); have n5_ := Aside0.mk ((by rw [hg]; exact Nat.ne_of_lt (blk_lt (g := gb101) (o := .cells #[.int .i64 a0_0, .int .u64 a0_1, .int .u64 a0_2, .int .u64 a0_3, .int .u64 a0_4, .slice A0_5 l0_5.length c0_5, .slice A0_6 l0_6.length c0_6, .slice A0_7 l0_7.length c0_7, .slice A0_8 l0_8.length c0_8] 30 (0, 0)) (by (with_reducible repeat (first | refine blk_drewN ?_ _ | refine blk_drew ?_ | refine blk_alloc ?_ _)); exact BK101.out)) : gb101 ≠ gb102)); have n6_ := Aside0.mk ((by rw [hg]; exact Nat.ne_of_gt (blk_lt (g := gb101) (o := .cells #[.int .i64 a0_0, .int .u64 a0_1, .int .u64 a0_2, .int .u64 a0_3, .int .u64 a0_4, .slice A0_5 l0_5.length c0_5, .slice A0_6 l0_6.length c0_6, .slice A0_7 l0_7.length c0_7, .slice A0_8 l0_8.length c0_8] 30 (0, 0)) (by (with_reducible repeat (first | refine blk_drewN ?_ _ | refine blk_drew ?_ | refine blk_alloc ?_ _)); exact BK101.out)) : gb102 ≠ gb101)); clear BK101; clear HB; have BK101 := n0_; have HB := n1_; have BK102 := n2_; have GW102 := n3_; have GE102 := n4_; have NB101_102 := n5_; have NB102_101 := n6_; clear n0_ n1_ n2_ n3_ n4_ n5_ n6_; clear hb hbox hg; have hnb35 := NB101_102.out; have hnc35 := NB102_101.out; have hcz36_0 : w34.cell? ⟨gb101, 0, none⟩ = some (.int .i64 a0_0) := (blk_cell BK101.out 0).trans rfl; have hcz36_1 : w34.cell? ⟨gb101, 1, none⟩ = some (.int .u64 a0_1) := (blk_cell BK101.out 1).trans rfl; have hcz36_2 : w34.cell? ⟨gb101, 2, none⟩ = some (.int .u64 a0_2) := (blk_cell BK101.out 2).trans rfl; have hcz36_3 : w34.cell? ⟨gb101, 3, none⟩ = some (.int .u64 a0_3) := (blk_cell BK101.out 3).trans rfl; have hcz36_4 : w34.cell? ⟨gb101, 4, none⟩ = some (.int .u64 a0_4) := (blk_cell BK101.out 4).trans rfl; have hcz36_5 : w34.cell? ⟨gb101, 5, none⟩ = some (.slice A0_5 l0_5.length c0_5) := (blk_cell BK101.out 5).trans rfl; have hcz36_6 : w34.cell? ⟨gb101, 6, none⟩ = some (.slice A0_6 l0_6.length c0_6) := (blk_cell BK101.out 6).trans rfl; have hcz36_7 : w34.cell? ⟨gb101, 7, none⟩ = some (.slice A0_7 l0_7.length c0_7) := (blk_cell BK101.out 7).trans rfl; have hcz36_8 : w34.cell? ⟨gb101, 8, none⟩ = some (.slice A0_8 l0_8.length c0_8) := (blk_cell BK101.out 8).trans rfl; have hfz36_0 := blk_frozen BK101.out 0; have hfz36_1 := blk_frozen BK101.out 1; have hfz36_2 := blk_frozen BK101.out 2; have hfz36_3 := blk_frozen BK101.out 3; have hfz36_4 := blk_frozen BK101.out 4; have hfz36_5 := blk_frozen BK101.out 5; have hfz36_6 := blk_frozen BK101.out 6; have hfz36_7 := blk_frozen BK101.out 7; have hfz36_8 := blk_frozen BK101.out 8) | ((with_reducible refine gate_callee (f := 19) rfl ?_); refine goesL_ (some 6) rfl rfl Try.func19 (by kernel_rfl) rfl #[.agg #[.int .i64 a0_0, .int .u64 a0_1, .int .u64 a0_2, .int .u64 a0_3, .int .u64 a0_4, .slice A0_5 l0_5.length c0_5, .slice A0_6 l0_6.length c0_6, .slice A0_7 l0_7.length c0_7, .slice A0_8 l0_8.length c0_8]] rfl (by (try simp only [List.map_toArray, List.map_cons, List.map_nil]); first | done | rfl | (simp only [List.length_drop, List.length_take]; rfl)) ?_; (with_reducible refine (hist_Check.calls a0_0 a0_1 a0_2 a0_3 a0_4 _ _ l0_5 _ _ l0_6 _ _ l0_7 _ _ l0_8 t103 _ ?side1 ?side2 ?side3 ?side4 ?side5 ?side6 ?side7 ?side8 A2.out).mono ?_); (case side1 => repeat (first | exact (Kd.C_below HR0_5.out HB.out) | (with_reducible refine Kd.C_alloc ?_ _) | (with_reducible refine Kd.C_drewN ?_ _) | (with_reducible refine Kd.C_drew ?_))); (case side2 => exact HC0_5.out); (case side3 => repeat (first | exact (Kd.C_below HR0_6.out HB.out) | (with_reducible refine Kd.C_alloc ?_ _) | (with_reducible refine Kd.C_drewN ?_ _) | (with_reducible refine Kd.C_drew ?_))); (case side4 => exact HC0_6.out); (case side5 => repeat (first | exact (Kd.C_below HR0_7.out HB.out) | (with_reducible refine Kd.C_alloc ?_ _) | (with_reducible refine Kd.C_drewN ?_ _) | (with_reducible refine Kd.C_drew ?_))); (case side6 => exact HC0_7.out); (case side7 => repeat (first | exact (Kd.C_below HR0_8.out HB.out) | (with_reducible refine Kd.C_alloc ?_ _) | (with_reducible refine Kd.C_drewN ?_ _) | (with_reducible refine Kd.C_drew ?_))); (case side8 => exact HC0_8.out); rintro e w37 ⟨rfl, hb⟩; refine ⟨_, rfl, ?_⟩; have n0_ := Aside0.mk (blk_below (g := gb101) (o := .cells #[.int .i64 a0_0, .int .u64 a0_1, .int .u64 a0_2, .int .u64 a0_3, .int .u64 a0_4, .slice A0_5 l0_5.length c0_5, .slice A0_6 l0_6.length c0_6, .slice A0_7 l0_7.length c0_7, .slice A0_8 l0_8.length c0_8] 30 (0, 0)) (by (with_reducible repeat (first | refine blk_drewN ?_ _ | refine blk_drew ?_ | refine blk_alloc ?_ _)); exact BK101.out) hb); have n1_ := Aside0.mk (blk_below (g := gb102) (o := .cells #[.int .i64 0, .int .u64 0, .int .u64 0, .int .u64 0, .int .u64 0, .slice none 0 0, .slice none 0 0, .slice none 0 0, .slice none 0 0] 46 (0, 0)) (by (with_reducible repeat (first | refine blk_drewN ?_ _ | refine blk_drew ?_ | refine blk_alloc ?_ _)); exact BK102.out) hb); have n2_ := Aside0.mk (below_step (by repeat (first | (with_reducible first | exact HB.out | apply below_alloc | apply pw_below_drewN | apply below_drew1 | refine below_set ?_ GE101.out | refine below_set ?_ GE102.out) | exact HB.out)) hb); clear BK101; clear BK102; clear HB; have BK101 := n0_; have BK102 := n1_; have HB := n2_; clear n0_ n1_ n2_; (try clear hb); (try clear hb2); (try clear hk); (try clear hi); clear A2; have hcz38_0 : w37.cell? ⟨gb102, 0, none⟩ = some (.int .i64 0) := (blk_cell BK102.out 0).trans rfl; have hcz38_1 : w37.cell? ⟨gb102, 1, none⟩ = some (.int .u64 0) := (blk_cell BK102.out 1).trans rfl; have hcz38_2 : w37.cell? ⟨gb102, 2, none⟩ = some (.int .u64 0) := (blk_cell BK102.out 2).trans rfl; have hcz38_3 : w37.cell? ⟨gb102, 3, none⟩ = some (.int .u64 0) := (blk_cell BK102.out 3).trans rfl; have hcz38_4 : w37.cell? ⟨gb102, 4, none⟩ = some (.int .u64 0) := (blk_cell BK102.out 4).trans rfl; have hcz38_5 : w37.cell? ⟨gb102, 5, none⟩ = some (.slice none 0 0) := (blk_cell BK102.out 5).trans rfl; have hcz38_6 : w37.cell? ⟨gb102, 6, none⟩ = some (.slice none 0 0) := (blk_cell BK102.out 6).trans rfl; have hcz38_7 : w37.cell? ⟨gb102, 7, none⟩ = some (.slice none 0 0) := (blk_cell BK102.out 7).trans rfl; have hcz38_8 : w37.cell? ⟨gb102, 8, none⟩ = some (.slice none 0 0) := (blk_cell BK102.out 8).trans rfl; have hfz38_0 := blk_frozen BK102.out 0; have hfz38_1 := blk_frozen BK102.out 1; have hfz38_2 := blk_frozen BK102.out 2; have hfz38_3 := blk_frozen BK102.out 3; have hfz38_4 := blk_frozen BK102.out 4; have hfz38_5 := blk_frozen BK102.out 5; have hfz38_6 := blk_frozen BK102.out 6; have hfz38_7 := blk_frozen BK102.out 7; have hfz38_8 := blk_frozen BK102.out 8))
  refine bodyPost_ret (results_ct rfl _ _ gb102 46 #[.int .i64 0, .int .u64 0, .int .u64 0, .int .u64 0, .int .u64 0, .slice none 0 0, .slice none 0 0, .slice none 0 0, .slice none 0 0] (0, 0) _ rfl (by (with_reducible repeat (first | refine blk_drewN ?_ _ | refine blk_drew ?_ | refine blk_alloc ?_ _)); refine blk_put (cs := #[.int .i64 0, .int .u64 0, .int .u64 0, .int .u64 0, .int .u64 0, .slice none 0 0, .slice none 0 0, .slice none 0 0, .slice none 0 0]) ?_ 8 _ rfl; (with_reducible repeat (first | refine blk_drewN ?_ _ | refine blk_drew ?_ | refine blk_alloc ?_ _)); refine blk_put (cs := #[.int .i64 0, .int .u64 0, .int .u64 0, .int .u64 0, .int .u64 0, .slice none 0 0, .slice none 0 0, .slice none 0 0, .slice none 0 0]) ?_ 7 _ rfl; (with_reducible repeat (first | refine blk_drewN ?_ _ | refine blk_drew ?_ | refine blk_alloc ?_ _)); refine blk_put (cs := #[.int .i64 0, .int .u64 0, .int .u64 0, .int .u64 0, .int .u64 0, .slice none 0 0, .slice none 0 0, .slice none 0 0, .slice none 0 0]) ?_ 6 _ rfl; (with_reducible repeat (first | refine blk_drewN ?_ _ | refine blk_drew ?_ | refine blk_alloc ?_ _)); refine blk_put (cs := #[.int .i64 0, .int .u64 0, .int .u64 0, .int .u64 0, .int .u64 0, .slice none 0 0, .slice none 0 0, .slice none 0 0, .slice none 0 0]) ?_ 5 _ rfl; (with_reducible repeat (first | refine blk_drewN ?_ _ | refine blk_drew ?_ | refine blk_alloc ?_ _)); refine blk_put (cs := #[.int .i64 0, .int .u64 0, .int .u64 0, .int .u64 0, .int .u64 0, .slice none 0 0, .slice none 0 0, .slice none 0 0, .slice none 0 0]) ?_ 4 _ rfl; (with_reducible repeat (first | refine blk_drewN ?_ _ | refine blk_drew ?_ | refine blk_alloc ?_ _)); refine blk_put (cs := #[.int .i64 0, .int .u64 0, .int .u64 0, .int .u64 0, .int .u64 0, .slice none 0 0, .slice none 0 0, .slice none 0 0, .slice none 0 0]) ?_ 3 _ rfl; (with_reducible repeat (first | refine blk_drewN ?_ _ | refine blk_drew ?_ | refine blk_alloc ?_ _)); refine blk_put (cs := #[.int .i64 0, .int .u64 0, .int .u64 0, .int .u64 0, .int .u64 0, .slice none 0 0, .slice none 0 0, .slice none 0 0, .slice none 0 0]) ?_ 2 _ rfl; (with_reducible repeat (first | refine blk_drewN ?_ _ | refine blk_drew ?_ | refine blk_alloc ?_ _)); refine blk_put (cs := #[.int .i64 0, .int .u64 0, .int .u64 0, .int .u64 0, .int .u64 0, .slice none 0 0, .slice none 0 0, .slice none 0 0, .slice none 0 0]) ?_ 1 _ rfl; (with_reducible repeat (first | refine blk_drewN ?_ _ | refine blk_drew ?_ | refine blk_alloc ?_ _)); refine blk_put (cs := #[.int .i64 0, .int .u64 0, .int .u64 0, .int .u64 0, .int .u64 0, .slice none 0 0, .slice none 0 0, .slice none 0 0, .slice none 0 0]) ?_ 0 _ rfl; (with_reducible repeat (first | refine blk_drewN ?_ _ | refine blk_drew ?_ | refine blk_alloc ?_ _)); exact BK102.out) Try.underlying46 rfl (by kernel_rfl)) rfl ?_
  exact ⟨_, _, _, _, by first | rfl | (simp [errW_none, errW_some] <;> rfl) | (simp [*, errW_none, errW_some] <;> rfl), by first | exact Kd.R_nil _ _ _ _ _ | exact Kd.N_nil _ _ _ _ _ | exact Kd.V_nil _ _ _ _ _ | exact Kd.Q_nil _ _ _ _ _ | exact Kd.S_nil _ _ _ _ _, by first | exact Kd.R_nil _ _ _ _ _ | exact Kd.N_nil _ _ _ _ _ | exact Kd.V_nil _ _ _ _ _ | exact Kd.Q_nil _ _ _ _ _ | exact Kd.S_nil _ _ _ _ _, by first | exact Kd.R_nil _ _ _ _ _ | exact Kd.N_nil _ _ _ _ _ | exact Kd.V_nil _ _ _ _ _ | exact Kd.Q_nil _ _ _ _ _ | exact Kd.S_nil _ _ _ _ _, by first | exact Kd.R_nil _ _ _ _ _ | exact Kd.N_nil _ _ _ _ _ | exact Kd.V_nil _ _ _ _ _ | exact Kd.Q_nil _ _ _ _ _ | exact Kd.S_nil _ _ _ _ _, by repeat (first | (with_reducible first | exact HB.out | apply below_alloc | apply pw_below_drewN | apply below_drew1 | refine below_set ?_ GE101.out | refine below_set ?_ GE102.out) | exact HB.out)⟩
end Go.Proofs.Ytgkplhdcafbfbaa.P
namespace Go.Proofs.Ytgkplhdcafbfbaa.P
open Go.RowKit Go.Shelf Go.Proofs.YtgkplhdcafbfbaaW.PrintWords Go.Proofs.YtgkplhdcafbfbaaW.PrintLast Go.Proofs.YtgkplhdcafbfbaaW.PrintMore
theorem HI.at57 {w : World} {h : Hi} {x0 x1 x2 x3 x4 v5 v6 v7 v8 : Value} (hv : HI w (.agg #[x0, x1, x2, x3, x4, v5, v6, v7, v8]) h) : SI kSp w v5 h.f5 ∧ SI (Kd.int .i64) w v7 h.f7 := by
  obtain ⟨u5, u6, u7, u8, e, h5, h6, h7, h8⟩ := hv
  injection e with e
  have e5 := congrArg (fun a : Array Value => a.getD 5 undef) e
  have e7 := congrArg (fun a : Array Value => a.getD 7 undef) e
  simp at e5 e7
  rw [e5, e7]
  exact ⟨h5, h7⟩
def one25 : Hi := ⟨1, 0, 0, 5, 0, [⟨3, 3⟩], [], [1, -1, 4], []⟩
def res25 : Hi := ⟨0, 0, 0, 5, 0, [⟨2, 2⟩], [], [1, 3], []⟩
theorem aw25_1 : scaleR one25 0 = (res25, 0) := by kernel_rfl
def zero25 : Hi := ⟨0, 0, 0, 0, 0, [], [], [], []⟩
theorem aw25_4 : scaleR one25 2 = (zero25, 21) := by kernel_rfl
theorem aw25_7 : checkR one25 = 0 := by kernel_rfl
theorem one25_wf : wfH one25 := by unfold wfH; decide
theorem one25_x (w : World) : Calls Try.prog 35 #[] w fun e w' => ∃ oA5 oc5 oA6 oc6 oA7 oc7 oA8 oc8, e = .returned (.agg #[.int .i64 1, .int .u64 0, .int .u64 0, .int .u64 5, .int .u64 0, .slice oA5 1 oc5, .slice oA6 0 oc6, .slice oA7 3 oc7, .slice oA8 0 oc8]) ∧ HI w' (.agg #[.int .i64 1, .int .u64 0, .int .u64 0, .int .u64 5, .int .u64 0, .slice oA5 1 oc5, .slice oA6 0 oc6, .slice oA7 3 oc7, .slice oA8 0 oc8]) one25 ∧ Below w.heap.size w w' := by
  refine (tidepolelaw25_one.calls 1 0 0 5 0 [⟨3, 3⟩] [] [1, -1, 4] [] w (by kernel_rfl)).mono ?_
  rintro e w1 ⟨v5, v6, v7, v8, rfl, h5, h6, h7, h8, hb⟩
  have hi : HI w1 (.agg #[.int .i64 1, .int .u64 0, .int .u64 0, .int .u64 5, .int .u64 0, v5, v6, v7, v8]) one25 := ⟨v5, v6, v7, v8, rfl, .of_R h5, .of_R h6, .of_R h7, .of_R h8⟩
  obtain ⟨a5, c5, a6, c6, a7, c7, a8, c8, e, -⟩ := hi.open_
  rw [e] at hi ⊢
  exact ⟨a5, c5, a6, c6, a7, c7, a8, c8, rfl, hi, hb⟩
theorem ints25_x (w : World) (v : Value) (hv : HI w v one25) : Calls Try.prog 15 #[v, .int .i64 0] w fun e w' => ∃ hA5 hc5 hA6 hc6 hA7 hc7 hA8 hc8, e = .returned (.tuple #[.agg #[.int .i64 0, .int .u64 0, .int .u64 0, .int .u64 5, .int .u64 0, .slice hA5 1 hc5, .slice hA6 0 hc6, .slice hA7 2 hc7, .slice hA8 0 hc8], .int .i64 0]) ∧ HI w' (.agg #[.int .i64 0, .int .u64 0, .int .u64 0, .int .u64 5, .int .u64 0, .slice hA5 1 hc5, .slice hA6 0 hc6, .slice hA7 2 hc7, .slice hA8 0 hc8]) res25 ∧ Below w.heap.size w w' := by
  have hc := scaleI_c one25 one25_wf 0 (by decide) w v hv
  rw [aw25_1] at hc
  refine hc.mono ?_
  rintro e w1 ⟨v', rfl, hh, hb⟩
  have hi := hh.now
  obtain ⟨a5, c5, a6, c6, a7, c7, a8, c8, e, -⟩ := hi.open_
  subst e
  exact ⟨a5, c5, a6, c6, a7, c7, a8, c8, rfl, hi, hb⟩
theorem ints25_y (w : World) (v : Value) (hv : HI w v one25) : Calls Try.prog 15 #[v, .int .i64 2] w fun e w' => ∃ yA5 yc5 yA6 yc6 yA7 yc7 yA8 yc8, e = .returned (.tuple #[.agg #[.int .i64 0, .int .u64 0, .int .u64 0, .int .u64 0, .int .u64 0, .slice yA5 0 yc5, .slice yA6 0 yc6, .slice yA7 0 yc7, .slice yA8 0 yc8], .int .i64 21]) ∧ Below w.heap.size w w' := by
  have hc := scaleI_c one25 one25_wf 2 (by decide) w v hv
  rw [aw25_4] at hc
  refine hc.mono ?_
  rintro e w1 ⟨v', rfl, hh, hb⟩
  have hi := hh.now
  obtain ⟨a5, c5, a6, c6, a7, c7, a8, c8, e, -⟩ := hi.open_
  subst e
  exact ⟨a5, c5, a6, c6, a7, c7, a8, c8, rfl, hb⟩
theorem sample25_x (w : World) (oA5 oA6 oA7 oA8 : Option Addr) (oc5 oc6 oc7 oc8 : Nat) : Calls Try.prog 38 #[.int .i64 7, .agg #[.int .i64 1, .int .u64 0, .int .u64 0, .int .u64 5, .int .u64 0, .slice oA5 1 oc5, .slice oA6 0 oc6, .slice oA7 3 oc7, .slice oA8 0 oc8]] w fun e w' => e = .returned (.agg #[.int .i64 7, .int .i64 0, .int .i64 1, .int .u64 0, .int .u64 0, .int .u64 5, .int .u64 0, .slice oA5 1 oc5, .slice oA6 0 oc6, .slice oA7 3 oc7, .slice oA8 0 oc8, .int .i64 0, .int .u64 0, .int .u64 0, .int .u64 0, .int .u64 0, .slice none 0 0, .slice none 0 0, .slice none 0 0, .slice none 0 0]) ∧ Below w.heap.size w w' :=
  sampleInts_c w 7 #[.int .i64 1, .int .u64 0, .int .u64 0, .int .u64 5, .int .u64 0, .slice oA5 1 oc5, .slice oA6 0 oc6, .slice oA7 3 oc7, .slice oA8 0 oc8] #[.int .i64 7, .int .i64 0, .int .i64 1, .int .u64 0, .int .u64 0, .int .u64 5, .int .u64 0, .slice oA5 1 oc5, .slice oA6 0 oc6, .slice oA7 3 oc7, .slice oA8 0 oc8, .int .i64 0, .int .u64 0, .int .u64 0, .int .u64 0, .int .u64 0, .slice none 0 0, .slice none 0 0, .slice none 0 0, .slice none 0 0] (by kernel_rfl) rfl (by kernel_rfl) rfl
theorem sub25 (oA5 oA6 oA7 oA8 : Option Addr) (oc5 oc6 oc7 oc8 : Nat) : ∀ j v, (#[.int .i64 1, .int .u64 0, .int .u64 0, .int .u64 5, .int .u64 0, .slice oA5 1 oc5, .slice oA6 0 oc6, .slice oA7 3 oc7, .slice oA8 0 oc8] : Array Value)[j]? = some v → (#[.int .i64 7, .int .i64 0, .int .i64 1, .int .u64 0, .int .u64 0, .int .u64 5, .int .u64 0, .slice oA5 1 oc5, .slice oA6 0 oc6, .slice oA7 3 oc7, .slice oA8 0 oc8, .int .i64 0, .int .u64 0, .int .u64 0, .int .u64 0, .int .u64 0, .slice none 0 0, .slice none 0 0, .slice none 0 0, .slice none 0 0] : Array Value)[2 + j]? = some v := by
  intro j v h
  match j, h with
  | 0, h => exact h
  | 1, h => exact h
  | 2, h => exact h
  | 3, h => exact h
  | 4, h => exact h
  | 5, h => exact h
  | 6, h => exact h
  | 7, h => exact h
  | 8, h => exact h
  | n + 9, h => simp at h
def resm4 : Hi := ⟨-4, 0, 0, 5, 0, [⟨1, 1⟩], [], [5], []⟩
theorem aw25_5 : scaleR one25 (-4) = (resm4, 0) := by kernel_rfl
theorem scaled25_x (w : World) (oA5 oA6 oA7 oA8 : Option Addr) (oc5 oc6 oc7 oc8 : Nat) (hv : HI w (.agg #[.int .i64 1, .int .u64 0, .int .u64 0, .int .u64 5, .int .u64 0, .slice oA5 1 oc5, .slice oA6 0 oc6, .slice oA7 3 oc7, .slice oA8 0 oc8]) one25) : Calls Try.prog 37 #[.agg #[.int .i64 7, .int .i64 0, .int .i64 1, .int .u64 0, .int .u64 0, .int .u64 5, .int .u64 0, .slice oA5 1 oc5, .slice oA6 0 oc6, .slice oA7 3 oc7, .slice oA8 0 oc8, .int .i64 0, .int .u64 0, .int .u64 0, .int .u64 0, .int .u64 0, .slice none 0 0, .slice none 0 0, .slice none 0 0, .slice none 0 0], .int .i64 (-4)] w fun e w' => ∃ (S2 : Array Value) (sA9 : Option Addr) (sc9 : Nat), e = .returned (.tuple #[.agg S2, .int .i64 0]) ∧ S2.size = 20 ∧ S2.all (·.oneCell') = true ∧ S2[0]? = some (.int .i64 7) ∧ S2[9]? = some (.slice sA9 1 sc9) ∧ Below w.heap.size w w' := by
  refine (scaleSample_c w #[.int .i64 7, .int .i64 0, .int .i64 1, .int .u64 0, .int .u64 0, .int .u64 5, .int .u64 0, .slice oA5 1 oc5, .slice oA6 0 oc6, .slice oA7 3 oc7, .slice oA8 0 oc8, .int .i64 0, .int .u64 0, .int .u64 0, .int .u64 0, .int .u64 0, .slice none 0 0, .slice none 0 0, .slice none 0 0, .slice none 0 0] #[.int .i64 1, .int .u64 0, .int .u64 0, .int .u64 5, .int .u64 0, .slice oA5 1 oc5, .slice oA6 0 oc6, .slice oA7 3 oc7, .slice oA8 0 oc8] 7 (-4) (fun S2 _ => ∃ (sA9 : Option Addr) (sc9 : Nat), S2.size = 20 ∧ S2.all (·.oneCell') = true ∧ S2[0]? = some (.int .i64 7) ∧ S2[9]? = some (.slice sA9 1 sc9)) (fun _ _ _ h _ _ => h) rfl rfl (sub25 oA5 oA6 oA7 oA8 oc5 oc6 oc7 oc8) rfl rfl ?_ ?_).mono ?_
  · intro W hb
    refine sampleCheck_c W #[.int .i64 7, .int .i64 0, .int .i64 1, .int .u64 0, .int .u64 0, .int .u64 5, .int .u64 0, .slice oA5 1 oc5, .slice oA6 0 oc6, .slice oA7 3 oc7, .slice oA8 0 oc8, .int .i64 0, .int .u64 0, .int .u64 0, .int .u64 0, .int .u64 0, .slice none 0 0, .slice none 0 0, .slice none 0 0, .slice none 0 0] #[.int .i64 1, .int .u64 0, .int .u64 0, .int .u64 5, .int .u64 0, .slice oA5 1 oc5, .slice oA6 0 oc6, .slice oA7 3 oc7, .slice oA8 0 oc8] 0 rfl (sub25 oA5 oA6 oA7 oA8 oc5 oc6 oc7 oc8) rfl ?_
    intro W' hb'
    have HC := check_c one25 one25_wf _ _ ((hv.below hb).below hb')
    rw [aw25_7] at HC
    exact HC
  · intro W hb
    have hv1 := hv.below hb
    have hc := scaleI_c one25 one25_wf (-4) (by decide) W _ hv1
    rw [aw25_5] at hc
    refine hc.mono ?_
    rintro e w1 ⟨v', rfl, hh, hb⟩
    obtain ⟨a5, d5, a6, d6, a7, d7, a8, d8, e, -⟩ := hh.now.open_
    subst e
    exact ⟨_, #[.int .i64 7, .int .i64 0, .int .i64 (-4), .int .u64 0, .int .u64 0, .int .u64 5, .int .u64 0, .slice a5 1 d5, .slice a6 0 d6, .slice a7 1 d7, .slice a8 0 d8, .int .i64 0, .int .u64 0, .int .u64 0, .int .u64 0, .int .u64 0, .slice none 0 0, .slice none 0 0, .slice none 0 0, .slice none 0 0], rfl, rfl, by kernel_rfl, by kernel_rfl, rfl, by kernel_rfl, ⟨_, _, rfl, by kernel_rfl, rfl, rfl⟩, hb⟩
  · rintro e w1 ⟨S2, rfl, ⟨sA9, sc9, q1, q2, q3, q4⟩, hb⟩
    exact ⟨S2, sA9, sc9, rfl, q1, q2, q3, q4, hb⟩
theorem place25_a (w : World) : Calls Try.prog 11 #[.int .i64 3, .int .i64 1] w fun e w' => e = .returned (.int .i64 2) ∧ Below w.heap.size w w' :=
  (scale_Place.calls 2 3 1 2 w (by kernel_rfl)).mono fun e w1 h => ⟨h.1, h.2.below⟩
theorem place25_b (w : World) : Calls Try.prog 11 #[.int .i64 (-3), .int .i64 1] w fun e w' => e = .returned (.int .i64 (-1)) ∧ Below w.heap.size w w' :=
  (scale_Place.calls 2 (-3) 1 (-1) w (by kernel_rfl)).mono fun e w1 h => ⟨h.1, h.2.below⟩
end Go.Proofs.Ytgkplhdcafbfbaa.P
namespace Go.Proofs.Ytgkplhdcafbfbaa.P
open Go.RowKit Go.Shelf Go.Proofs.YtgkplhdcafbfbaaW.PrintWords Go.Proofs.YtgkplhdcafbfbaaW.PrintLast Go.Proofs.YtgkplhdcafbfbaaW.PrintMore
def from25 : Fh := ⟨1, 0, 0, 4617315517961601024, 0, [⟨3, 3⟩], [], [4607182418800017408, 0, 4616189618054758400], []⟩
def fres25 : Fh := ⟨0, 0, 0, 4617315517961601024, 0, [⟨2, 2⟩], [], [4607182418800017408, 4616189618054758400], []⟩
theorem aw25_2 : fhist_From.f 1 0 0 5 0 [⟨3, 3⟩] [] [1, -1, 4] [] = some (1, 0, 0, 4617315517961601024, 0, [⟨3, 3⟩], [], [4607182418800017408, 0, 4616189618054758400], [], 0) := by kernel_rfl
theorem aw25_3 : scaleFR from25 0 = (fres25, 0) := by kernel_rfl
theorem from25_wf : wfF from25 := by unfold wfF; decide
theorem aw25_6 : scale_Fit.f 40 1 0 0 5 0 [⟨3, 3⟩] [] [1, -1, 4] [] 1 = some (-2, 0) := by kernel_rfl
theorem from25_x (w : World) (v : Value) (hv : HI w v one25) : Calls Try.prog 36 #[v] w fun e w' => ∃ fA5 fc5 fA6 fc6 fA7 fc7 fA8 fc8, e = .returned (.tuple #[.agg #[.int .i64 1, .int .u64 0, .int .u64 0, .int .u64 4617315517961601024, .int .u64 0, .slice fA5 1 fc5, .slice fA6 0 fc6, .slice fA7 3 fc7, .slice fA8 0 fc8], .int .i64 0]) ∧ GI w' (.agg #[.int .i64 1, .int .u64 0, .int .u64 0, .int .u64 4617315517961601024, .int .u64 0, .slice fA5 1 fc5, .slice fA6 0 fc6, .slice fA7 3 fc7, .slice fA8 0 fc8]) from25 ∧ Below w.heap.size w w' := by
  obtain ⟨A5, c5, A6, c6, A7, c7, A8, c8, rfl, ⟨_, _, e5, h51, h52⟩, ⟨_, _, e6, h61, h62⟩, ⟨_, _, e7, h71, h72⟩, ⟨_, _, e8, h81, h82⟩⟩ := hv.open_
  cases e5; cases e6; cases e7; cases e8
  refine (fhist_From.calls 1 0 0 5 0 A5 c5 _ A6 c6 _ A7 c7 _ A8 c8 _ _ _ _ _ _ _ _ _ _ _ w h52 h51 h62 h61 h72 h71 h82 h81 aw25_2).mono ?_
  rintro e w1 ⟨v5, v6, v7, v8, rfl, h5, h6, h7, h8, hb⟩
  have hi : GI w1 (.agg #[.int .i64 1, .int .u64 0, .int .u64 0, .int .u64 4617315517961601024, .int .u64 0, v5, v6, v7, v8]) from25 := ⟨v5, v6, v7, v8, rfl, .of_R h5, .of_R h6, .of_R h7, .of_R h8⟩
  obtain ⟨a5, c5, a6, c6, a7, c7, a8, c8, e, -⟩ := hi.open_
  rw [e] at hi ⊢
  exact ⟨a5, c5, a6, c6, a7, c7, a8, c8, rfl, hi, hb⟩
theorem floats25_x (w : World) (v : Value) (hv : GI w v from25) : Calls Try.prog 21 #[v, .int .i64 0] w fun e w' => ∃ xA5 xc5 xA6 xc6 xA7 xc7 xA8 xc8, e = .returned (.tuple #[.agg #[.int .i64 0, .int .u64 0, .int .u64 0, .int .u64 4617315517961601024, .int .u64 0, .slice xA5 1 xc5, .slice xA6 0 xc6, .slice xA7 2 xc7, .slice xA8 0 xc8], .int .i64 0]) ∧ GI w' (.agg #[.int .i64 0, .int .u64 0, .int .u64 0, .int .u64 4617315517961601024, .int .u64 0, .slice xA5 1 xc5, .slice xA6 0 xc6, .slice xA7 2 xc7, .slice xA8 0 xc8]) fres25 ∧ Below w.heap.size w w' := by
  have hc := scaleF_c from25 from25_wf 0 (by decide) w v hv
  rw [aw25_3] at hc
  refine hc.mono ?_
  rintro e w1 ⟨v', rfl, hh, hb⟩
  have hi := hh.now
  obtain ⟨a5, c5, a6, c6, a7, c7, a8, c8, e, -⟩ := hi.open_
  subst e
  exact ⟨a5, c5, a6, c6, a7, c7, a8, c8, rfl, hi, hb⟩
theorem fit25_x (w : World) (v : Value) (hv : HI w v one25) : Calls Try.prog 27 #[v, .int .i64 1] w fun e w' => e = .returned (.tuple #[.int .i64 (-2), .int .i64 0]) ∧ Below w.heap.size w w' := by
  obtain ⟨A5, c5, A6, c6, A7, c7, A8, c8, rfl, ⟨_, _, e5, h51, h52⟩, ⟨_, _, e6, h61, h62⟩, ⟨_, _, e7, h71, h72⟩, ⟨_, _, e8, h81, h82⟩⟩ := hv.open_
  cases e5; cases e6; cases e7; cases e8
  exact scale_Fit.calls 40 1 0 0 5 0 A5 c5 _ A6 c6 _ A7 c7 _ A8 c8 _ 1 _ _ w h52 h51 h62 h61 h72 h71 h82 h81 aw25_6
set_option maxHeartbeats 16000000 in
set_option maxRecDepth 100000 in
theorem awake25_c (w : World) : Calls Try.prog 13 #[] w fun e w' => e = .returned (.bool true) ∧ Below w.heap.size w w' := by
  have hu := Try.underlying30
  have hus := Try.underlying82
  have huf := Try.underlying46
  have hup := Try.underlying87
  go_enter Try.func13, Try.ntmps13
  go_wp2_with fail
  refine (one25_x w).mono ?_
  rintro e w1 ⟨oA5, oc5, oA6, oc6, oA7, oc7, oA8, oc8, rfl, hh, hb⟩
  have B := Aside0.mk hb
  have O := Aside0.mk hh
  clear hb hh
  go_wp2_with fail
  refine (ints25_x _ _ O.out).mono ?_
  rintro e w2 ⟨hA5, hc5, hA6, hc6, hA7, hc7, hA8, hc8, rfl, hh, hb⟩
  replace B := Aside0.mk (below_then B.out B.out.size hb)
  replace O := Aside0.mk (O.out.below hb)
  have Hh := Aside0.mk hh
  clear hb hh
  go_wp2_with fail
  refine (one25_x _).mono ?_
  rintro e w3 ⟨pA5, pc5, pA6, pc6, pA7, pc7, pA8, pc8, rfl, hh, hb⟩
  have hb0 := hb
  have hb := below_then (below_alloc (Below.refl w2.heap.size w2) (.cells #[.int .i64 0, .int .u64 0, .int .u64 0, .int .u64 5, .int .u64 0, .slice hA5 1 hc5, .slice hA6 0 hc6, .slice hA7 2 hc7, .slice hA8 0 hc8] 30)) ((below_alloc (Below.refl w2.heap.size w2) (.cells #[.int .i64 0, .int .u64 0, .int .u64 0, .int .u64 5, .int .u64 0, .slice hA5 1 hc5, .slice hA6 0 hc6, .slice hA7 2 hc7, .slice hA8 0 hc8] 30))).size hb
  replace B := Aside0.mk (below_then B.out B.out.size hb)
  replace O := Aside0.mk (O.out.below hb)
  replace Hh := Aside0.mk (Hh.out.below hb)
  have T1 := Aside0.mk (show Blk w3 w2.heap.size #[.int .i64 0, .int .u64 0, .int .u64 0, .int .u64 5, .int .u64 0, .slice hA5 1 hc5, .slice hA6 0 hc6, .slice hA7 2 hc7, .slice hA8 0 hc8] 30 from (Blk.new w2 #[.int .i64 0, .int .u64 0, .int .u64 0, .int .u64 5, .int .u64 0, .slice hA5 1 hc5, .slice hA6 0 hc6, .slice hA7 2 hc7, .slice hA8 0 hc8] 30).below hb0)
  have ht1 := fun i => T1.out.cell i
  have P := Aside0.mk hh
  clear hb hb0 hh
  go_wp2_with fail
  refine (from25_x _ _ P.out).mono ?_
  rintro e w4 ⟨fA5, fc5, fA6, fc6, fA7, fc7, fA8, fc8, rfl, hh, hb⟩
  replace B := Aside0.mk (below_then B.out B.out.size hb)
  replace O := Aside0.mk (O.out.below hb)
  replace Hh := Aside0.mk (Hh.out.below hb)
  replace P := Aside0.mk (P.out.below hb)
  replace T1 := Aside0.mk (T1.out.below hb)
  replace ht1 := fun i => T1.out.cell i
  have Ff := Aside0.mk hh
  clear hb hh
  have ht3 := fun i => (Blk.new w4 #[.int .i64 1, .int .u64 0, .int .u64 0, .int .u64 4617315517961601024, .int .u64 0, .slice fA5 1 fc5, .slice fA6 0 fc6, .slice fA7 3 fc7, .slice fA8 0 fc8] 46).cell i
  go_wp2_with fail
  refine (floats25_x _ _ (Ff.out.below (below_alloc (Below.refl w4.heap.size w4) (.cells #[.int .i64 1, .int .u64 0, .int .u64 0, .int .u64 4617315517961601024, .int .u64 0, .slice fA5 1 fc5, .slice fA6 0 fc6, .slice fA7 3 fc7, .slice fA8 0 fc8] 46)))).mono ?_
  rintro e w5 ⟨xA5, xc5, xA6, xc6, xA7, xc7, xA8, xc8, rfl, hh, hb⟩
  have hb0 := hb
  have hb := below_then (below_alloc (Below.refl w4.heap.size w4) (.cells #[.int .i64 1, .int .u64 0, .int .u64 0, .int .u64 4617315517961601024, .int .u64 0, .slice fA5 1 fc5, .slice fA6 0 fc6, .slice fA7 3 fc7, .slice fA8 0 fc8] 46)) ((below_alloc (Below.refl w4.heap.size w4) (.cells #[.int .i64 1, .int .u64 0, .int .u64 0, .int .u64 4617315517961601024, .int .u64 0, .slice fA5 1 fc5, .slice fA6 0 fc6, .slice fA7 3 fc7, .slice fA8 0 fc8] 46))).size hb
  replace B := Aside0.mk (below_then B.out B.out.size hb)
  replace O := Aside0.mk (O.out.below hb)
  replace Hh := Aside0.mk (Hh.out.below hb)
  replace P := Aside0.mk (P.out.below hb)
  replace Ff := Aside0.mk (Ff.out.below hb)
  replace T1 := Aside0.mk (T1.out.below hb)
  replace ht1 := fun i => T1.out.cell i
  clear hb hb0
  clear hh ht3
  go_wp2_with fail
  refine (one25_x _).mono ?_
  rintro e w6 ⟨qA5, qc5, qA6, qc6, qA7, qc7, qA8, qc8, rfl, hh, hb⟩
  have hb0 := hb
  have hb := below_then (below_alloc (Below.refl w5.heap.size w5) (.cells #[.int .i64 0, .int .u64 0, .int .u64 0, .int .u64 4617315517961601024, .int .u64 0, .slice xA5 1 xc5, .slice xA6 0 xc6, .slice xA7 2 xc7, .slice xA8 0 xc8] 46)) ((below_alloc (Below.refl w5.heap.size w5) (.cells #[.int .i64 0, .int .u64 0, .int .u64 0, .int .u64 4617315517961601024, .int .u64 0, .slice xA5 1 xc5, .slice xA6 0 xc6, .slice xA7 2 xc7, .slice xA8 0 xc8] 46))).size hb
  replace B := Aside0.mk (below_then B.out B.out.size hb)
  replace O := Aside0.mk (O.out.below hb)
  replace Hh := Aside0.mk (Hh.out.below hb)
  replace P := Aside0.mk (P.out.below hb)
  replace Ff := Aside0.mk (Ff.out.below hb)
  replace T1 := Aside0.mk (T1.out.below hb)
  replace ht1 := fun i => T1.out.cell i
  have T5 := Aside0.mk (show Blk w6 w5.heap.size #[.int .i64 0, .int .u64 0, .int .u64 0, .int .u64 4617315517961601024, .int .u64 0, .slice xA5 1 xc5, .slice xA6 0 xc6, .slice xA7 2 xc7, .slice xA8 0 xc8] 46 from (Blk.new w5 #[.int .i64 0, .int .u64 0, .int .u64 0, .int .u64 4617315517961601024, .int .u64 0, .slice xA5 1 xc5, .slice xA6 0 xc6, .slice xA7 2 xc7, .slice xA8 0 xc8] 46).below hb0)
  have ht5 := fun i => T5.out.cell i
  have Q := Aside0.mk hh
  clear hb hb0 hh
  go_wp2_with fail
  refine (ints25_y _ _ Q.out).mono ?_
  rintro e w7 ⟨yA5, yc5, yA6, yc6, yA7, yc7, yA8, yc8, rfl, hb⟩
  replace B := Aside0.mk (below_then B.out B.out.size hb)
  replace O := Aside0.mk (O.out.below hb)
  replace Hh := Aside0.mk (Hh.out.below hb)
  replace P := Aside0.mk (P.out.below hb)
  replace Ff := Aside0.mk (Ff.out.below hb)
  replace Q := Aside0.mk (Q.out.below hb)
  replace T1 := Aside0.mk (T1.out.below hb)
  replace ht1 := fun i => T1.out.cell i
  replace T5 := Aside0.mk (T5.out.below hb)
  replace ht5 := fun i => T5.out.cell i
  clear hb
  go_wp2_with fail
  refine (one25_x _).mono ?_
  rintro e w8 ⟨rA5, rc5, rA6, rc6, rA7, rc7, rA8, rc8, rfl, hh, hb⟩
  have hb0 := hb
  have hb := below_then (below_alloc (Below.refl w7.heap.size w7) (.cells #[.int .i64 0, .int .u64 0, .int .u64 0, .int .u64 0, .int .u64 0, .slice yA5 0 yc5, .slice yA6 0 yc6, .slice yA7 0 yc7, .slice yA8 0 yc8] 30)) ((below_alloc (Below.refl w7.heap.size w7) (.cells #[.int .i64 0, .int .u64 0, .int .u64 0, .int .u64 0, .int .u64 0, .slice yA5 0 yc5, .slice yA6 0 yc6, .slice yA7 0 yc7, .slice yA8 0 yc8] 30))).size hb
  replace B := Aside0.mk (below_then B.out B.out.size hb)
  replace O := Aside0.mk (O.out.below hb)
  replace Hh := Aside0.mk (Hh.out.below hb)
  replace P := Aside0.mk (P.out.below hb)
  replace Ff := Aside0.mk (Ff.out.below hb)
  replace Q := Aside0.mk (Q.out.below hb)
  replace T1 := Aside0.mk (T1.out.below hb)
  replace ht1 := fun i => T1.out.cell i
  replace T5 := Aside0.mk (T5.out.below hb)
  replace ht5 := fun i => T5.out.cell i
  have R := Aside0.mk hh
  clear hb hb0 hh
  go_wp2_with fail
  refine (sample25_x _ rA5 rA6 rA7 rA8 rc5 rc6 rc7 rc8).mono ?_
  rintro e w9 ⟨rfl, hb⟩
  replace B := Aside0.mk (below_then B.out B.out.size hb)
  replace O := Aside0.mk (O.out.below hb)
  replace Hh := Aside0.mk (Hh.out.below hb)
  replace P := Aside0.mk (P.out.below hb)
  replace Ff := Aside0.mk (Ff.out.below hb)
  replace Q := Aside0.mk (Q.out.below hb)
  replace R := Aside0.mk (R.out.below hb)
  replace T1 := Aside0.mk (T1.out.below hb)
  replace ht1 := fun i => T1.out.cell i
  replace T5 := Aside0.mk (T5.out.below hb)
  replace ht5 := fun i => T5.out.cell i
  clear hb
  go_wp2_with fail
  refine (scaled25_x _ rA5 rA6 rA7 rA8 rc5 rc6 rc7 rc8 R.out).mono ?_
  rintro e w10 ⟨S2, sA9, sc9, rfl, q1, q2, q3, q4, hb⟩
  replace B := Aside0.mk (below_then B.out B.out.size hb)
  replace O := Aside0.mk (O.out.below hb)
  replace Hh := Aside0.mk (Hh.out.below hb)
  replace P := Aside0.mk (P.out.below hb)
  replace Ff := Aside0.mk (Ff.out.below hb)
  replace Q := Aside0.mk (Q.out.below hb)
  replace R := Aside0.mk (R.out.below hb)
  replace T1 := Aside0.mk (T1.out.below hb)
  replace ht1 := fun i => T1.out.cell i
  replace T5 := Aside0.mk (T5.out.below hb)
  replace ht5 := fun i => T5.out.cell i
  clear hb
  have Q1 := Aside0.mk q1
  have Q2 := Aside0.mk q2
  clear q1 q2
  have N1 := Aside0.mk (heap_alloc_new w10 (.cells #[.int .i64 0, .int .i64 0, .int .i64 0, .int .u64 0, .int .u64 0, .int .u64 0, .int .u64 0, .slice none 0 0, .slice none 0 0, .slice none 0 0, .slice none 0 0, .int .i64 0, .int .u64 0, .int .u64 0, .int .u64 0, .int .u64 0, .slice none 0 0, .slice none 0 0, .slice none 0 0, .slice none 0 0] 82))
  go_wp2_with (refine wpList_store_row rfl 82 (.tmp 9) (.tmp 37) rfl w10.heap.size S2 rfl rfl 82 _ N1.out (by rw [Q1.out]; kernel_rfl) (by rw [Q1.out]; rfl) Q2.out ?_; rw [World.setRow_alloc_new])
  refine (one25_x _).mono ?_
  rintro e w11 ⟨uA5, uc5, uA6, uc6, uA7, uc7, uA8, uc8, rfl, hh, hb⟩
  have hb0 := hb
  have hb := below_then (below_alloc (Below.refl w10.heap.size w10) (.cells S2 82)) ((below_alloc (Below.refl w10.heap.size w10) (.cells S2 82))).size hb
  replace B := Aside0.mk (below_then B.out B.out.size hb)
  replace O := Aside0.mk (O.out.below hb)
  replace Hh := Aside0.mk (Hh.out.below hb)
  replace P := Aside0.mk (P.out.below hb)
  replace Ff := Aside0.mk (Ff.out.below hb)
  replace Q := Aside0.mk (Q.out.below hb)
  replace R := Aside0.mk (R.out.below hb)
  replace T1 := Aside0.mk (T1.out.below hb)
  replace ht1 := fun i => T1.out.cell i
  replace T5 := Aside0.mk (T5.out.below hb)
  replace ht5 := fun i => T5.out.cell i
  have T9 := Aside0.mk (show Blk w11 w10.heap.size S2 82 from (Blk.new w10 S2 82).below hb0)
  have ht9 := fun i => T9.out.cell i
  have U := Aside0.mk hh
  clear hb hb0 hh
  go_wp2_with fail
  refine (fit25_x _ _ U.out).mono ?_
  rintro e w12 ⟨rfl, hb⟩
  replace B := Aside0.mk (below_then B.out B.out.size hb)
  replace O := Aside0.mk (O.out.below hb)
  replace Hh := Aside0.mk (Hh.out.below hb)
  replace P := Aside0.mk (P.out.below hb)
  replace Ff := Aside0.mk (Ff.out.below hb)
  replace Q := Aside0.mk (Q.out.below hb)
  replace R := Aside0.mk (R.out.below hb)
  replace U := Aside0.mk (U.out.below hb)
  replace T1 := Aside0.mk (T1.out.below hb)
  replace ht1 := fun i => T1.out.cell i
  replace T5 := Aside0.mk (T5.out.below hb)
  replace ht5 := fun i => T5.out.cell i
  replace T9 := Aside0.mk (T9.out.below hb)
  replace ht9 := fun i => T9.out.cell i
  clear hb
  obtain ⟨_, _, e5, _, hC5⟩ := (HI.at57 Hh.out).1
  cases e5
  obtain ⟨ad5, e1, hx0, hx1⟩ := at_T87 hC5 0 (by decide) (by decide)
  subst e1
  obtain ⟨_, _, e7, _, hC7⟩ := (HI.at57 Hh.out).2
  cases e7
  obtain ⟨ad7, e2, hx7⟩ := Kd.at_int hC7 1 (by decide) (by decide)
  subst e2
  have hx0' : w12.cell? ad5 = some (.int .i64 2) := hx0
  have hx7' : w12.cell? ⟨ad7.block, ad7.off + 1, none⟩ = some (.int .i64 3) := hx7
  have PA := Aside0.mk place25_a
  have PB := Aside0.mk place25_b
  go_wp2_with (first | (go_at_call 11; (with_reducible first | refine (PA.out _).mono ?_ | refine (PB.out _).mono ?_); rintro e w20 ⟨rfl, hb⟩; replace B := Aside0.mk (below_then B.out B.out.size hb); clear hb))
  go_ret
  exact ⟨rfl, B.out⟩
end Go.Proofs.Ytgkplhdcafbfbaa.P
namespace Go.Proofs.Ytgkplhdcafbfbaa.P
open Go.RowKit Go.Shelf Go.Proofs.YtgkplhdcafbfbaaW.PrintWords Go.Proofs.YtgkplhdcafbfbaaW.PrintLast Go.Proofs.YtgkplhdcafbfbaaW.PrintMore
theorem make_right {g : Hi} (hw : wfH g) (c1 : headE g = 0) {p n : List Pr} (rp : RowOK p) (rn : RowOK n) (bp : ∀ q ∈ p, -1048576 ≤ q.f0 ∧ q.f0 ≤ 1048576) (bn : ∀ q ∈ n, -1048576 ≤ q.f0 ∧ q.f0 ≤ 1048576) (lp : p.length ≤ 1024) (ln : n.length ≤ 1024) (hf : fits g.f2 g.f3 g.f4 p n = true) :
    ∃ c : Hi, makeR g p n = (c, 0) ∧ checkR c = 0 ∧ openR c = (p, n, 0) ∧ sameNums c g ∧ wfH c ∧ c.f7.length = p.length ∧ c.f8.length = n.length ∧ canonB true c.f5 = true ∧ canonB true c.f6 = true ∧ c = madeH g p n := by
  obtain ⟨dp, e1, e2, e3, e4, e5, e6⟩ := lay_ok rp bp lp
  obtain ⟨dn, g1, g2, g3, g4, g5, g6⟩ := lay_ok rn bn ln
  have hmade : madeH g p n = ⟨g.f0, g.f1, g.f2, g.f3, g.f4, spansOf (p.map (·.f0)), spansOf (n.map (·.f0)), dp, dn⟩ := by unfold madeH; rw [e1, g1]
  have hmw := madeH_wf hw rp.wf rn.wf
  have hm' := hmade
  rw [hmade] at hmw
  generalize hC : (⟨g.f0, g.f1, g.f2, g.f3, g.f4, spansOf (p.map (·.f0)), spansOf (n.map (·.f0)), dp, dn⟩ : Hi) = c at *
  have hck : checkR c = 0 := by
    subst hC
    refine checkR_right c1 (by simp only [e2]) (by simp only [g2]) ?_
    simp only [e2, g2]
    exact hf
  have hoc : openR c = (p, n, 0) := by
    rw [openR_right hck]
    subst hC
    simp only [e2, g2]
  refine ⟨c, ?_, hck, hoc, by subst hC; exact ⟨rfl, rfl, rfl, rfl, rfl⟩, hmw, by subst hC; exact e5, by subst hC; exact g5, by subst hC; exact e3, by subst hC; exact g3, hm'.symm⟩
  unfold makeR
  rw [e1, g1, hmade]
  simp [hck]
theorem sides_right {h : Hi} (hw : wfH h) (hc : checkR h = 0) : RowOK (openR h).1 ∧ RowOK (openR h).2.1 ∧ (∀ q ∈ (openR h).1, -1048576 ≤ q.f0 ∧ q.f0 ≤ 1048576) ∧ (∀ q ∈ (openR h).2.1, -1048576 ≤ q.f0 ∧ q.f0 ≤ 1048576) ∧ (openR h).1.length = h.f7.length ∧ (openR h).2.1.length = h.f8.length ∧ fits h.f2 h.f3 h.f4 (openR h).1 (openR h).2.1 = true ∧ headE h = 0 := by
  obtain ⟨z1, z2, z3, z4⟩ := checkR_zero hc
  obtain ⟨a, b⟩ := openR_row hw
  have ho := openR_right hc
  have b5 := side_bounds z2
  have b6 := side_bounds z3
  refine ⟨a, b, ?_, ?_, ?_, ?_, ?_, z1⟩
  · rw [ho]; exact b5.1
  · rw [ho]; exact b6.1
  · rw [ho]; exact b5.2.1
  · rw [ho]; exact b6.2.1
  · rw [ho]; exact z4
theorem widen_bound {s : Int} {l r : List Pr} (h : RowOK l) (hr : widenW s l = some r) (hb : ∀ q ∈ l, -1048576 ≤ q.f0 ∧ q.f0 ≤ 1048576) : ∀ q ∈ r, -1048576 ≤ q.f0 ∧ q.f0 ≤ 1048576 := by
  intro q hq
  obtain ⟨q', hq', e⟩ := (widenW_ok h hr).2.2.2 q hq
  rw [e]
  exact placeR_bound (by omega) (hb q' hq').1 (hb q' hq').2
theorem low_right {h : Hi} (hw : wfH h) (hc : checkR h = 0) (h7 : h.f7.length ≤ 1024) (h8 : h.f8.length ≤ 1024) {tt : Int} (ht0 : -4 ≤ tt) (ht1 : tt ≤ h.f0) {p n : List Pr} (hp : widenW (h.f0 - tt) (openR h).1 = some p) (hn : widenW (h.f0 - tt) (openR h).2.1 = some n) :
    ∃ c : Hi, scaleR h tt = (c, 0) ∧ checkR c = 0 ∧ openR c = (some0 p, some0 n, 0) ∧ sameNums c (lowH h tt) ∧ wfH c ∧ c.f7.length = (some0 p).length ∧ c.f8.length = (some0 n).length ∧ canonB true c.f5 = true ∧ canonB true c.f6 = true ∧ c = madeH (lowH h tt) (some0 p) (some0 n) := by
  obtain ⟨r1, r2, b1, b2, l1, l2, hf, hd⟩ := sides_right hw hc
  have hs := checkR_schema hc
  obtain ⟨w1, w2, w3, w4⟩ := widenW_ok r1 hp
  obtain ⟨v1, v2, v3, v4⟩ := widenW_ok r2 hn
  have lp : (some0 p).length ≤ p.length := List.length_filter_le _ _
  have ln : (some0 n).length ≤ n.length := List.length_filter_le _ _
  have hwl : wfH (lowH h tt) := by
    obtain ⟨_, w⟩ := hw
    exact ⟨by show i64 tt; unfold i64; omega, w⟩
  have hdl : headE (lowH h tt) = 0 := by
    unfold headE at hd ⊢
    rw [if_neg (by show ¬ (tt < -4 ∨ tt > 8); omega)]
    rw [if_neg (by omega)] at hd
    exact hd
  have hfl : fits (lowH h tt).f2 (lowH h tt).f3 (lowH h tt).f4 (some0 p) (some0 n) = true := by
    rw [fits_congr _ _ _ ((sumV_some0 p).trans w3) ((sumV_some0 n).trans v3)]; exact hf
  obtain ⟨c, m, rest⟩ := make_right hwl hdl (some0_ok w1) (some0_ok v1) (fun q hq => widen_bound r1 hp b1 q (List.mem_filter.1 hq).1) (fun q hq => widen_bound r2 hn b2 q (List.mem_filter.1 hq).1) (by omega) (by omega) hfl
  refine ⟨c, ?_, rest⟩
  unfold scaleR
  rw [if_neg (by simp [hc]), if_neg (by omega), hp, hn]
  exact m
theorem ints_ok {h : Hi} {tt : Int} (he : (scaleR h tt).2 = 0) : checkR h = 0 ∧ -4 ≤ tt ∧ tt ≤ h.f0 ∧ ∃ p n, widenW (h.f0 - tt) (openR h).1 = some p ∧ widenW (h.f0 - tt) (openR h).2.1 = some n := by
  unfold scaleR at he
  by_cases hc : checkR h = 0
  rotate_left
  · rw [if_pos hc] at he; exact absurd he hc
  rw [if_neg (by simp [hc])] at he
  by_cases ht : tt < -4 ∨ tt > h.f0
  · rw [if_pos ht] at he; cases he
  rw [if_neg ht] at he
  refine ⟨hc, by omega, by omega, ?_⟩
  cases hp : widenW (h.f0 - tt) (openR h).1 with
  | none => rw [hp] at he; cases he
  | some p =>
    cases hn : widenW (h.f0 - tt) (openR h).2.1 with
    | none => rw [hp, hn] at he; cases he
    | some n => exact ⟨p, n, rfl, rfl⟩
end Go.Proofs.Ytgkplhdcafbfbaa.P
namespace Go.Proofs.Ytgkplhdcafbfbaa.P
open Go.RowKit Go.Proofs.YtgkplhdcafbfbaaW.PrintWords Go.Proofs.YtgkplhdcafbfbaaW.PrintLast Go.Proofs.YtgkplhdcafbfbaaW.PrintMore
theorem look_some0 : ∀ (b : List Pr), Ups (fun q : Pr => q.f0) b → ∀ p, lookPr (some0 b) p = lookPr b p
  | [], _, _ => rfl
  | x :: b, hu, p => by
    have ih := look_some0 b hu.tail p
    rw [lookPr_cons]
    unfold some0 at ih ⊢
    rw [List.filter_cons]
    by_cases c : x.f1 = 0
    · rw [if_neg (by simp [c]), ih]
      by_cases c2 : x.f0 = p
      · rw [if_pos c2, c]
        exact look_none (fun y hy => by have := hu.head y hy; omega)
      · rw [if_neg c2]
    · rw [if_pos (by simp [c]), lookPr_cons, ih]
end Go.Proofs.Ytgkplhdcafbfbaa.P
namespace Go.Proofs.Ytgkplhdcafbfbaa.P
open Go.RowKit Go.Shelf Go.Proofs.YtgkplhdcafbfbaaW.PrintWords Go.Proofs.YtgkplhdcafbfbaaW.PrintLast Go.Proofs.YtgkplhdcafbfbaaW.PrintMore
def sumIf (P : Int → Bool) : List Pr → Int
  | [] => 0
  | p :: t => (if P p.f0 = true then p.f1 else 0) + sumIf P t
def sumAt (s q : Int) (l : List Pr) : Int := sumIf (fun i => decide (placeR i s = q)) l
theorem sumIf_nonneg (P : Int → Bool) : ∀ (l : List Pr), (∀ p ∈ l, 0 ≤ p.f1) → 0 ≤ sumIf P l
  | [], _ => Int.le_refl 0
  | p :: t, h => by
    have h1 := h p (by simp)
    have h2 := sumIf_nonneg P t (fun q hq => h q (List.mem_cons_of_mem _ hq))
    rw [sumIf]
    split <;> omega
theorem sumIf_none (P : Int → Bool) : ∀ (l : List Pr), (∀ p ∈ l, P p.f0 = false) → sumIf P l = 0
  | [], _ => rfl
  | p :: t, h => by
    rw [sumIf, sumIf_none P t (fun q hq => h q (List.mem_cons_of_mem _ hq)), h p (by simp)]
    rfl
theorem lookPr_nil (p : Int) : lookPr [] p = 0 := rfl
theorem lookPr_behind {l : List Pr} {p : Int} (h : ∀ x ∈ l, p < x.f0) : lookPr l p = 0 := look_none (fun y hy => by have := h y hy; omega)
theorem widenGo_look (s q : Int) : ∀ (l : List Pr) (cur : Pr) (r : List Pr), widenGo s cur l = some r → Ups (fun p : Pr => p.f0) l → (∀ x ∈ l, cur.f0 ≤ placeR x.f0 s) → lookPr r q = (if cur.f0 = q then cur.f1 else 0) + sumAt s q l := by
  intro l
  induction l with
  | nil =>
    intro cur r h _ _
    cases h
    rw [lookPr_cons, lookPr_nil]
    simp [sumAt, sumIf]
  | cons p t ih =>
    intro cur r h hu hle
    have hm : ∀ x ∈ t, placeR p.f0 s ≤ placeR x.f0 s := fun x hx => place_mono (Int.le_of_lt (hu.head x hx))
    have hp := hle p (by simp)
    simp only [widenGo] at h
    unfold sumAt at *
    rw [sumIf]
    split at h
    · rename_i he
      split at h
      · have := ih _ _ h hu.tail (fun x hx => hle x (List.mem_cons_of_mem _ hx))
        rw [this, he]
        simp only [decide_eq_true_eq]
        split <;> omega
      · cases h
    · rename_i he
      cases hr : widenGo s ⟨placeR p.f0 s, p.f1⟩ t with
      | none => rw [hr] at h; cases h
      | some r' =>
        rw [hr] at h
        cases h
        have := ih _ _ hr hu.tail hm
        rw [lookPr_cons, this]
        simp only [decide_eq_true_eq]
        by_cases hq : cur.f0 = q
        · rw [if_pos hq, if_pos hq, if_neg (by omega), sumIf_none _ t (fun x hx => by have := hm x hx; simp; omega)]
          omega
        · rw [if_neg hq, if_neg hq]
          omega
theorem widenW_look {s : Int} {l r : List Pr} (h : widenW s l = some r) (hu : Ups (fun p : Pr => p.f0) l) (q : Int) : lookPr r q = sumAt s q l := by
  cases l with
  | nil => cases h; rfl
  | cons p t =>
    have := widenGo_look s q t ⟨placeR p.f0 s, p.f1⟩ r h hu.tail (fun x hx => place_mono (Int.le_of_lt (hu.head x hx)))
    rw [this]
    unfold sumAt
    rw [sumIf]
    simp only [decide_eq_true_eq]
end Go.Proofs.Ytgkplhdcafbfbaa.P
namespace Go.Proofs.Ytgkplhdcafbfbaa.P
open Go.RowKit Go.Shelf Go.Proofs.YtgkplhdcafbfbaaW.PrintWords Go.Proofs.YtgkplhdcafbfbaaW.PrintLast Go.Proofs.YtgkplhdcafbfbaaW.PrintMore
theorem row_ext : ∀ (a b : List Pr), Ups (fun q : Pr => q.f0) a → Ups (fun q : Pr => q.f0) b → (∀ p ∈ a, p.f1 ≠ 0) → (∀ p ∈ b, p.f1 ≠ 0) → (∀ q, lookPr a q = lookPr b q) → a = b
  | [], [], _, _, _, _, _ => rfl
  | [], y :: b, _, ub, _, hb, h => by
    have := h y.f0
    rw [lookPr_nil, lookPr_cons, if_pos rfl] at this
    exact absurd this.symm (hb y (by simp))
  | x :: a, [], ua, _, ha, _, h => by
    have := h x.f0
    rw [lookPr_nil, lookPr_cons, if_pos rfl] at this
    exact absurd this (ha x (by simp))
  | x :: a, y :: b, ua, ub, ha, hb, h => by
    have hx := h x.f0
    have hy := h y.f0
    rw [lookPr_cons, if_pos rfl, lookPr_cons] at hx
    rw [lookPr_cons, lookPr_cons, if_pos rfl] at hy
    have e0 : x.f0 = y.f0 := by
      rcases Int.lt_trichotomy x.f0 y.f0 with c | c | c
      · rw [if_neg (by omega), lookPr_behind (fun z hz => by have := ub.head z hz; omega)] at hx
        exact absurd hx (ha x (by simp))
      · exact c
      · rw [if_neg (by omega), lookPr_behind (fun z hz => by have := ua.head z hz; omega)] at hy
        exact absurd hy.symm (hb y (by simp))
    rw [if_pos e0.symm] at hx
    have exy : x = y := by cases x; cases y; simp only at e0 hx; subst e0; subst hx; rfl
    subst exy
    rw [row_ext a b ua.tail ub.tail (fun p hp => ha p (List.mem_cons_of_mem _ hp)) (fun p hp => hb p (List.mem_cons_of_mem _ hp)) (fun q => by
      have := h q
      rw [lookPr_cons, lookPr_cons] at this
      by_cases c : x.f0 = q
      · rw [lookPr_behind (fun z hz => by have := ua.head z hz; omega), lookPr_behind (fun z hz => by have := ub.head z hz; omega)]
      · rwa [if_neg c, if_neg c] at this)]
theorem sumIf_some0 (P : Int → Bool) : ∀ l : List Pr, sumIf P (some0 l) = sumIf P l
  | [] => rfl
  | p :: t => by
    have ih := sumIf_some0 P t
    unfold some0 at ih ⊢
    rw [List.filter_cons]
    by_cases c : p.f1 = 0
    · rw [if_neg (by simp [c]), ih, sumIf.eq_2 P p t, c]
      split <;> omega
    · rw [if_pos (by simp [c]), sumIf, sumIf, ih]
theorem some0_ne (l : List Pr) : ∀ p ∈ some0 l, p.f1 ≠ 0 := fun p hp => by
  have := (List.mem_filter.1 hp).2
  simpa using this
theorem widenGo_sum (s : Int) (P : Int → Bool) : ∀ (l : List Pr) (cur : Pr) (r : List Pr), widenGo s cur l = some r → sumIf P r = (if P cur.f0 = true then cur.f1 else 0) + sumIf (fun i => P (placeR i s)) l := by
  intro l
  induction l with
  | nil => intro cur r h; cases h; simp [sumIf]
  | cons p t ih =>
    intro cur r h
    simp only [widenGo] at h
    rw [sumIf.eq_2]
    split at h
    · rename_i he
      split at h
      · rw [ih _ _ h, he]
        simp only
        split <;> omega
      · cases h
    · cases hr : widenGo s ⟨placeR p.f0 s, p.f1⟩ t with
      | none => rw [hr] at h; cases h
      | some r' =>
        rw [hr] at h
        cases h
        rw [sumIf.eq_2, ih _ _ hr]
theorem widenW_sum {s : Int} {P : Int → Bool} {l r : List Pr} (h : widenW s l = some r) : sumIf P r = sumIf (fun i => P (placeR i s)) l := by
  cases l with
  | nil => cases h; rfl
  | cons p t => rw [widenGo_sum s P t _ r h, sumIf.eq_2]
theorem widenGo_none (s : Int) : ∀ (l : List Pr) (cur : Pr), widenGo s cur l = none → (∀ p ∈ l, 0 ≤ p.f1) → 0 ≤ cur.f1 → ∃ q, 9223372036854775807 < (if cur.f0 = q then cur.f1 else 0) + sumAt s q l := by
  intro l
  induction l with
  | nil => intro cur h; cases h
  | cons p t ih =>
    intro cur h hn h0
    have hp := hn p (by simp)
    have hn' : ∀ q ∈ t, 0 ≤ q.f1 := fun q hq => hn q (List.mem_cons_of_mem _ hq)
    simp only [widenGo] at h
    unfold sumAt at *
    split at h
    · rename_i he
      split at h
      · obtain ⟨q, hq⟩ := ih _ h hn' (by show 0 ≤ cur.f1 + p.f1; omega)
        refine ⟨q, ?_⟩
        rw [sumIf.eq_2, he]
        simp only [decide_eq_true_eq] at hq ⊢
        split <;> split at hq <;> omega
      · rename_i ho
        refine ⟨cur.f0, ?_⟩
        have := sumIf_nonneg (fun i => decide (placeR i s = cur.f0)) t hn'
        rw [sumIf.eq_2, he, if_pos rfl]
        simp only [decide_true, if_true]
        omega
    · rename_i he
      cases hr : widenGo s ⟨placeR p.f0 s, p.f1⟩ t with
      | some r' => rw [hr] at h; cases h
      | none =>
        obtain ⟨q, hq⟩ := ih _ hr hn' hp
        refine ⟨q, ?_⟩
        rw [sumIf.eq_2]
        simp only [decide_eq_true_eq] at hq ⊢
        split <;> omega
theorem widenW_none {s : Int} {l : List Pr} (hr : RowOK l) : widenW s l = none ↔ ∃ q, 9223372036854775807 < sumAt s q l := by
  constructor
  · intro h
    cases l with
    | nil => cases h
    | cons p t =>
      obtain ⟨q, hq⟩ := widenGo_none s t _ h (fun x hx => (hr.cnt x (List.mem_cons_of_mem _ hx)).2.1) (hr.cnt p (by simp)).2.1
      refine ⟨q, ?_⟩
      unfold sumAt at hq ⊢
      rw [sumIf.eq_2]
      simp only [decide_eq_true_eq] at hq ⊢
      exact hq
  · rintro ⟨q, hq⟩
    cases h : widenW s l with
    | none => rfl
    | some r =>
      obtain ⟨rr, _⟩ := widenW_ok hr h
      rw [← widenW_look h hr.ups] at hq
      rcases look_or (key := fun q : Pr => q.f0) (val := fun q : Pr => q.f1) r q with ⟨x, hx, -, e⟩ | ⟨-, e⟩
      · have := (rr.cnt x hx).2.2
        unfold lookPr at hq
        omega
      · unfold lookPr at hq
        omega
theorem sumAt_twice {a b : Nat} (hab : a + b ≤ 62) {l p : List Pr} (hp : widenW a l = some p) (q : Int) : sumAt b q (some0 p) = sumAt ((a : Int) + b) q l := by
  unfold sumAt
  rw [sumIf_some0, widenW_sum hp]
  congr 1
  funext i
  rw [place_place hab]
theorem widen_twice {a b : Nat} (hab : a + b ≤ 62) {l p : List Pr} (hr : RowOK l) (hp : widenW a l = some p) : (widenW b (some0 p)).map some0 = (widenW ((a : Int) + b) l).map some0 := by
  obtain ⟨rp, _⟩ := widenW_ok hr hp
  have r0 := some0_ok rp
  cases h1 : widenW b (some0 p) with
  | none =>
    obtain ⟨q, hq⟩ := (widenW_none r0).1 h1
    rw [sumAt_twice hab hp] at hq
    rw [(widenW_none hr).2 ⟨q, hq⟩]
  | some r =>
    cases h2 : widenW ((a : Int) + b) l with
    | none =>
      obtain ⟨q, hq⟩ := (widenW_none hr).1 h2
      rw [← sumAt_twice hab hp] at hq
      rw [(widenW_none r0).2 ⟨q, hq⟩] at h1
      cases h1
    | some t =>
      obtain ⟨k1, _⟩ := widenW_ok r0 h1
      obtain ⟨k2, _⟩ := widenW_ok hr h2
      simp only [Option.map_some]
      congr 1
      refine row_ext _ _ (some0_ok k1).ups (some0_ok k2).ups (some0_ne r) (some0_ne t) (fun q => ?_)
      rw [look_some0 _ k1.ups, look_some0 _ k2.ups, widenW_look h1 r0.ups, widenW_look h2 hr.ups, sumAt_twice hab hp]
theorem widen_own_go : ∀ (l : List Pr) (cur : Pr), (∀ x ∈ l, cur.f0 < x.f0) → Ups (fun p : Pr => p.f0) l → widenGo 0 cur l = some (cur :: l) := by
  have h0 : ∀ i : Int, placeR i 0 = i := fun i => by
    unfold placeR
    rw [if_neg (by omega)]
    simp
  intro l
  induction l with
  | nil => intro cur _ _; rfl
  | cons p t ih =>
    intro cur hc hu
    have := hc p (by simp)
    simp only [widenGo]
    rw [h0, if_neg (by omega), ih ⟨p.f0, p.f1⟩ (fun x hx => hu.head x hx) hu.tail]
    rfl
theorem widen_own {l : List Pr} (hu : Ups (fun p : Pr => p.f0) l) : widenW 0 l = some l := by
  cases l with
  | nil => rfl
  | cons p t =>
    have h0 : placeR p.f0 0 = p.f0 := by unfold placeR; rw [if_neg (by omega)]; simp
    show widenGo 0 ⟨placeR p.f0 0, p.f1⟩ t = some (p :: t)
    rw [h0, widen_own_go t ⟨p.f0, p.f1⟩ (fun x hx => hu.head x hx) hu.tail]
theorem makeR_nums {h g : Hi} (e0 : h.f0 = g.f0) (e1 : h.f1 = g.f1) (e2 : h.f2 = g.f2) (e3 : h.f3 = g.f3) (e4 : h.f4 = g.f4) (p n : List Pr) : makeR h p n = makeR g p n := by
  unfold makeR madeH
  rw [e0, e1, e2, e3, e4]
theorem scaleR_right {h : Hi} (hc : checkR h = 0) (tt : Int) : scaleR h tt = if tt < -4 ∨ tt > h.f0 then (emptyH, 21)
  else match widenW (h.f0 - tt) (openR h).1, widenW (h.f0 - tt) (openR h).2.1 with
    | some p, some n => makeR (lowH h tt) (some0 p) (some0 n)
    | _, _ => (emptyH, 28) := by
  unfold scaleR
  rw [if_neg (by simp [hc])]
  rfl
theorem scaleTwice_plain {h x : Hi} {first tt : Int} (hw : wfH h) (h7 : h.f7.length ≤ 1024) (h8 : h.f8.length ≤ 1024) (hx : scaleR h first = (x, 0)) :
    wfH x ∧ (tt > first → (scaleR x tt).2 = 21) ∧ (tt ≤ first → scaleR x tt = scaleR h tt) ∧ scaleR h h.f0 = canonR h := by
  obtain ⟨hc, t0, t1, p, n, hp, hn⟩ := ints_ok (h := h) (tt := first) (by rw [hx])
  obtain ⟨x', ex, cx, ox, ⟨sx0, sx1, sx2, sx3, sx4⟩, wx, -⟩ := low_right hw hc h7 h8 t0 t1 hp hn
  rw [hx] at ex
  injection ex with ex _
  subst ex
  simp only [lowH] at sx0 sx1 sx2 sx3 sx4
  have ra := openR_row hw
  have hs := checkR_schema hc
  refine ⟨wx, fun hgt => ?_, fun hle => ?_, ?_⟩
  · rw [scaleR_right cx, if_pos (Or.inr (by omega))]
  · rw [scaleR_right cx, scaleR_right hc]
    by_cases c : tt < -4
    · rw [if_pos (Or.inl c), if_pos (Or.inl c)]
    rw [if_neg (by omega), if_neg (by omega), ox]
    have e1 := widen_twice (a := (h.f0 - first).toNat) (b := (first - tt).toNat) (by omega) ra.1 (p := p) (by rw [show (((h.f0 - first).toNat : Nat) : Int) = h.f0 - first by omega]; exact hp)
    have e2 := widen_twice (a := (h.f0 - first).toNat) (b := (first - tt).toNat) (by omega) ra.2 (p := n) (by rw [show (((h.f0 - first).toNat : Nat) : Int) = h.f0 - first by omega]; exact hn)
    rw [show (((first - tt).toNat : Nat) : Int) = first - tt by omega, show (((h.f0 - first).toNat : Nat) : Int) + (first - tt) = h.f0 - tt by omega] at e1 e2
    rw [sx0]
    simp only
    cases a1 : widenW (first - tt) (some0 p) with
    | none =>
      rw [a1] at e1
      cases b1 : widenW (h.f0 - tt) (openR h).1 with
      | none => rfl
      | some r => rw [b1] at e1; cases e1
    | some r1 =>
      rw [a1] at e1
      cases b1 : widenW (h.f0 - tt) (openR h).1 with
      | none => rw [b1] at e1; cases e1
      | some r2 =>
        rw [b1] at e1
        cases a2 : widenW (first - tt) (some0 n) with
        | none =>
          rw [a2] at e2
          cases b2 : widenW (h.f0 - tt) (openR h).2.1 with
          | none => rfl
          | some r => rw [b2] at e2; cases e2
        | some q1 =>
          rw [a2] at e2
          cases b2 : widenW (h.f0 - tt) (openR h).2.1 with
          | none => rw [b2] at e2; cases e2
          | some q2 =>
            rw [b2] at e2
            simp only [Option.map_some, Option.some.injEq] at e1 e2
            simp only
            rw [e1, e2]
            exact makeR_nums (h := lowH x tt) (g := lowH h tt) rfl sx1 sx2 sx3 sx4 _ _
  · unfold canonR
    rw [scaleR_right hc, if_neg (show ¬ (h.f0 < -4 ∨ h.f0 > h.f0) by omega), if_neg (show ¬ checkR h ≠ 0 by simp [hc]), show h.f0 - h.f0 = 0 by omega, widen_own ra.1.ups, widen_own ra.2.ups]
    exact makeR_nums (h := lowH h h.f0) (g := h) rfl rfl rfl rfl rfl _ _
end Go.Proofs.Ytgkplhdcafbfbaa.P
namespace Go.Proofs.Ytgkplhdcafbfbaa.P
open Go.RowKit Go.Shelf Go.Proofs.YtgkplhdcafbfbaaW.PrintWords Go.Proofs.YtgkplhdcafbfbaaW.PrintLast Go.Proofs.YtgkplhdcafbfbaaW.PrintMore
structure Lens (x : Hi) : Prop where
  wf : wfH x
  l5 : x.f5.length ≤ 1024
  l6 : x.f6.length ≤ 1024
  l7 : x.f7.length ≤ 4096
  l8 : x.f8.length ≤ 4096
theorem right_lens {x : Hi} (hw : wfH x) (hc : checkR x = 0) : Lens x := by
  obtain ⟨-, z2, z3, -⟩ := checkR_zero hc
  obtain ⟨-, a1, a2, a3⟩ := side_bounds z2
  obtain ⟨-, b1, b2, b3⟩ := side_bounds z3
  have a4 := places_len a3
  have b4 := places_len b3
  rw [← a2, List.length_map] at a4
  rw [← b2, List.length_map] at b4
  exact ⟨hw, (spCheck_zero a3).1, (spCheck_zero b3).1, by omega, by omega⟩
theorem empty_lens : Lens emptyH := ⟨by unfold wfH; decide, by decide, by decide, by decide, by decide⟩
theorem makeR_lens {g : Hi} {p n : List Pr} (hw : wfH g) (hp : wfRow p) (hn : wfRow n) : Lens (makeR g p n).1 := by
  unfold makeR
  split
  · exact empty_lens
  split
  · exact empty_lens
  split
  · exact empty_lens
  · rename_i h
    exact right_lens (madeH_wf hw hp hn) (by simpa using h)
theorem low_wf {h : Hi} {tt : Int} (hw : wfH h) (ht : i64 tt) : wfH (lowH h tt) := by
  obtain ⟨_, w⟩ := hw
  exact ⟨ht, w⟩
theorem scaleR_lens {h : Hi} {tt : Int} (hw : wfH h) (ht : i64 tt) : Lens (scaleR h tt).1 := by
  have ra := openR_row hw
  unfold scaleR
  split
  · exact empty_lens
  split
  · exact empty_lens
  split
  · rename_i p n hp hn
    exact makeR_lens (low_wf hw ht) (some0_ok (widenW_ok ra.1 hp).1).wf (some0_ok (widenW_ok ra.2 hn).1).wf
  · exact empty_lens
theorem canonR_lens {h : Hi} (hw : wfH h) : Lens (canonR h).1 := by
  have ra := openR_row hw
  unfold canonR
  split
  · exact empty_lens
  · exact makeR_lens hw (some0_ok ra.1).wf (some0_ok ra.2).wf
end Go.Proofs.Ytgkplhdcafbfbaa.P
namespace Go.Proofs.Ytgkplhdcafbfbaa.P
open Go.RowKit Go.Shelf Go.Proofs.YtgkplhdcafbfbaaW.PrintWords Go.Proofs.YtgkplhdcafbfbaaW.PrintLast Go.Proofs.YtgkplhdcafbfbaaW.PrintMore
theorem sameS25_eq (l : List S104) (hl : l.length < 4398046511104) : tidepoleref06_Span.f (l.length + 1) l l = some true := by
  have hgo : ∀ (d i : Nat), l.length - i = d → i ≤ l.length → tidepoleref06_Span.l0 (d + 1) l l (l.length : Int) (i : Int) = some true := by
    intro d
    induction d with
    | zero => intro i hd hi; rw [tidepoleref06_Span.l0, if_neg (by omega)]
    | succ d ih =>
      intro i hd hi
      rw [tidepoleref06_Span.l0, if_pos (by omega), if_pos (by omega), if_pos (by omega), if_pos (by omega), if_neg (by simp), wrap_succ (by omega)]
      exact ih (i + 1) (by omega) (by omega)
  unfold tidepoleref06_Span.f
  rw [if_pos rfl]
  exact hgo l.length 0 (by omega) (by omega)
theorem sameI25_eq (l : List Int) (hl : l.length < 4398046511104) : tidepolelaw25_same_int64.f (l.length + 1) l l = some true := by
  have hgo : ∀ (d i : Nat), l.length - i = d → i ≤ l.length → tidepolelaw25_same_int64.l0 (d + 1) l l (l.length : Int) (i : Int) = some true := by
    intro d
    induction d with
    | zero => intro i hd hi; rw [tidepolelaw25_same_int64.l0, if_neg (by omega)]
    | succ d ih =>
      intro i hd hi
      rw [tidepolelaw25_same_int64.l0, if_pos (by omega), if_pos (by omega), if_pos (by omega), if_pos (by omega), if_pos rfl, wrap_succ (by omega)]
      exact ih (i + 1) (by omega) (by omega)
  unfold tidepolelaw25_same_int64.f
  rw [if_pos rfl]
  exact hgo l.length 0 (by omega) (by omega)
theorem sameS25_c (l : List S104) (hl : l.length < 4398046511104) (w : World) (u v : Value) (hu : SI kRsp w u l) (hv : SI kRsp w v l) : Calls Try.prog 51 #[u, v] w fun e w' => e = .returned (.bool true) ∧ Below w.heap.size w w' := by
  obtain ⟨A, c, rfl, hc, hr⟩ := hu
  obtain ⟨B, d, rfl, hd, hs⟩ := hv
  exact (tidepoleref06_Span.calls _ A c l B d l true w hr hc hs hd (sameS25_eq l hl)).mono fun e w1 h => ⟨h.1, h.2.below⟩
theorem sameI25_c (l : List Int) (hl : l.length < 4398046511104) (w : World) (u v : Value) (hu : SI (Kd.int .i64) w u l) (hv : SI (Kd.int .i64) w v l) : Calls Try.prog 52 #[u, v] w fun e w' => e = .returned (.bool true) ∧ Below w.heap.size w w' := by
  obtain ⟨A, c, rfl, hc, hr⟩ := hu
  obtain ⟨B, d, rfl, hd, hs⟩ := hv
  exact (tidepolelaw25_same_int64.calls _ A c l B d l true w hr hc hs hd (sameI25_eq l hl)).mono fun e w1 h => ⟨h.1, h.2.below⟩
set_option maxHeartbeats 32000000 in
set_option maxRecDepth 100000 in
theorem isInts25_c (h : Hi) (l5 : h.f5.length < 4398046511104) (l6 : h.f6.length < 4398046511104) (l7 : h.f7.length < 4398046511104) (l8 : h.f8.length < 4398046511104) (w : World) (u v : Value) (hu : HI w u h) (hv : HR w v h) :
    Calls Try.prog 18 #[u, v] w fun e w' => e = .returned (.bool true) ∧ Below w.heap.size w w' := by
  have hud := Try.underlying30
  have hur := Try.underlying37
  obtain ⟨A5a, c5a, A6a, c6a, A7a, c7a, A8a, c8a, e, s5, s6, s7, s8⟩ := hu.open_
  subst e
  obtain ⟨A5b, c5b, A6b, c6b, A7b, c7b, A8b, c8b, e, t5, t6, t7, t8⟩ := hv.open_
  subst e
  have P5 := Aside0.mk (spans25_c h.f5 (by omega))
  have P6 := Aside0.mk (spans25_c h.f6 (by omega))
  have E5 := Aside0.mk (sameS25_c (h.f5.map toR) (by rw [List.length_map]; exact l5))
  have E6 := Aside0.mk (sameS25_c (h.f6.map toR) (by rw [List.length_map]; exact l6))
  have E7 := Aside0.mk (sameI25_c h.f7 l7)
  have E8 := Aside0.mk (sameI25_c h.f8 l8)
  have hb := below_alloc (below_alloc (Below.refl w.heap.size w) (.cells #[.int .i64 h.f0, .int .u64 h.f1, .int .u64 h.f2, .int .u64 h.f3, .int .u64 h.f4, .slice A5a h.f5.length c5a, .slice A6a h.f6.length c6a, .slice A7a h.f7.length c7a, .slice A8a h.f8.length c8a] 30)) (.cells #[.int .i64 h.f0, .int .u64 h.f1, .int .u64 h.f2, .int .u64 h.f3, .int .u64 h.f4, .slice A5b h.f5.length c5b, .slice A6b h.f6.length c6b, .slice A7b h.f7.length c7b, .slice A8b h.f8.length c8b] 37)
  have S5 := Aside0.mk (s5.below hb)
  have S6 := Aside0.mk (s6.below hb)
  have S7 := Aside0.mk (s7.below hb)
  have S8 := Aside0.mk (s8.below hb)
  have T5 := Aside0.mk (t5.below hb)
  have T6 := Aside0.mk (t6.below hb)
  have T7 := Aside0.mk (t7.below hb)
  have T8 := Aside0.mk (t8.below hb)
  have B := Aside0.mk hb
  have X := Aside0.mk ((Blk.new w #[.int .i64 h.f0, .int .u64 h.f1, .int .u64 h.f2, .int .u64 h.f3, .int .u64 h.f4, .slice A5a h.f5.length c5a, .slice A6a h.f6.length c6a, .slice A7a h.f7.length c7a, .slice A8a h.f8.length c8a] 30).alloc (.cells #[.int .i64 h.f0, .int .u64 h.f1, .int .u64 h.f2, .int .u64 h.f3, .int .u64 h.f4, .slice A5b h.f5.length c5b, .slice A6b h.f6.length c6b, .slice A7b h.f7.length c7b, .slice A8b h.f8.length c8b] 37))
  have Y := Aside0.mk (Blk.at1 (w := w) (.cells #[.int .i64 h.f0, .int .u64 h.f1, .int .u64 h.f2, .int .u64 h.f3, .int .u64 h.f4, .slice A5a h.f5.length c5a, .slice A6a h.f6.length c6a, .slice A7a h.f7.length c7a, .slice A8a h.f8.length c8a] 30) #[.int .i64 h.f0, .int .u64 h.f1, .int .u64 h.f2, .int .u64 h.f3, .int .u64 h.f4, .slice A5b h.f5.length c5b, .slice A6b h.f6.length c6b, .slice A7b h.f7.length c7b, .slice A8b h.f8.length c8b] 37)
  have e0 : (h.f0 == h.f0) = true := beq_self_eq_true _
  have e1 : (h.f1 == h.f1) = true := beq_self_eq_true _
  have e2 : (h.f2 == h.f2) = true := beq_self_eq_true _
  have e3 : (h.f3 == h.f3) = true := beq_self_eq_true _
  have e4 : (h.f4 == h.f4) = true := beq_self_eq_true _
  clear s5 s6 s7 s8 t5 t6 t7 t8 l5 l6 l7 l8 hu hv hb
  generalize h.f5.map toR = m5 at *
  generalize h.f6.map toR = m6 at *
  have hx := fun i => X.out.cell i
  have hy := fun i => Y.out.cell i
  go_enter Try.func18, Try.ntmps18
  go_wp2_with fail
  replace S5 := Aside0.mk (S5.out.below (below_drew (Below.refl _ _)))
  replace S6 := Aside0.mk (S6.out.below (below_drew (Below.refl _ _)))
  replace S7 := Aside0.mk (S7.out.below (below_drew (Below.refl _ _)))
  replace S8 := Aside0.mk (S8.out.below (below_drew (Below.refl _ _)))
  replace T5 := Aside0.mk (T5.out.below (below_drew (Below.refl _ _)))
  replace T6 := Aside0.mk (T6.out.below (below_drew (Below.refl _ _)))
  replace T7 := Aside0.mk (T7.out.below (below_drew (Below.refl _ _)))
  replace T8 := Aside0.mk (T8.out.below (below_drew (Below.refl _ _)))
  replace X := Aside0.mk (X.out.below (below_drew (Below.refl _ _)))
  replace Y := Aside0.mk (Y.out.below (below_drew (Below.refl _ _)))
  replace B := Aside0.mk (below_drew B.out)
  go_region_held3 (fun W => (∀ i, W.cell? ⟨w.heap.size, i, none⟩ = (#[.int .i64 h.f0, .int .u64 h.f1, .int .u64 h.f2, .int .u64 h.f3, .int .u64 h.f4, .slice A5a h.f5.length c5a, .slice A6a h.f6.length c6a, .slice A7a h.f7.length c7a, .slice A8a h.f8.length c8a] : Array Value)[i]?) ∧ (∀ i, W.cell? ⟨w.heap.size + 1, i, none⟩ = (#[.int .i64 h.f0, .int .u64 h.f1, .int .u64 h.f2, .int .u64 h.f3, .int .u64 h.f4, .slice A5b h.f5.length c5b, .slice A6b h.f6.length c6b, .slice A7b h.f7.length c7b, .slice A8b h.f8.length c8b] : Array Value)[i]?)) (exact ⟨fun i => X.out.cell i, fun i => Y.out.cell i⟩) (first | (go_at_call 50; (with_reducible refine (P5.out _ _ S5.out).mono ?_); rintro e W1 ⟨q5, rfl, hs, hb⟩; replace B := Aside0.mk (below_then B.out B.out.size hb); replace S5 := Aside0.mk (S5.out.below hb); replace S6 := Aside0.mk (S6.out.below hb); replace S7 := Aside0.mk (S7.out.below hb); replace S8 := Aside0.mk (S8.out.below hb); replace T5 := Aside0.mk (T5.out.below hb); replace T6 := Aside0.mk (T6.out.below hb); replace T7 := Aside0.mk (T7.out.below hb); replace T8 := Aside0.mk (T8.out.below hb); replace X := Aside0.mk (X.out.below hb); replace hx := fun i => X.out.cell i; replace Y := Aside0.mk (Y.out.below hb); replace hy := fun i => Y.out.cell i; have Q5 := Aside0.mk hs; clear P5; clear hs hb) | (go_at_call 51; (with_reducible refine (E5.out _ _ _ Q5.out T5.out).mono ?_); rintro e W2 ⟨rfl, hb⟩; replace B := Aside0.mk (below_then B.out B.out.size hb); replace S5 := Aside0.mk (S5.out.below hb); replace S6 := Aside0.mk (S6.out.below hb); replace S7 := Aside0.mk (S7.out.below hb); replace S8 := Aside0.mk (S8.out.below hb); replace T5 := Aside0.mk (T5.out.below hb); replace T6 := Aside0.mk (T6.out.below hb); replace T7 := Aside0.mk (T7.out.below hb); replace T8 := Aside0.mk (T8.out.below hb); replace Q5 := Aside0.mk (Q5.out.below hb); replace X := Aside0.mk (X.out.below hb); replace hx := fun i => X.out.cell i; replace Y := Aside0.mk (Y.out.below hb); replace hy := fun i => Y.out.cell i; clear E5; clear  hb) | (go_at_call 50; (with_reducible refine (P6.out _ _ S6.out).mono ?_); rintro e W3 ⟨q6, rfl, hs, hb⟩; replace B := Aside0.mk (below_then B.out B.out.size hb); replace S5 := Aside0.mk (S5.out.below hb); replace S6 := Aside0.mk (S6.out.below hb); replace S7 := Aside0.mk (S7.out.below hb); replace S8 := Aside0.mk (S8.out.below hb); replace T5 := Aside0.mk (T5.out.below hb); replace T6 := Aside0.mk (T6.out.below hb); replace T7 := Aside0.mk (T7.out.below hb); replace T8 := Aside0.mk (T8.out.below hb); replace Q5 := Aside0.mk (Q5.out.below hb); replace X := Aside0.mk (X.out.below hb); replace hx := fun i => X.out.cell i; replace Y := Aside0.mk (Y.out.below hb); replace hy := fun i => Y.out.cell i; have Q6 := Aside0.mk hs; clear P6; clear hs hb) | (go_at_call 51; (with_reducible refine (E6.out _ _ _ Q6.out T6.out).mono ?_); rintro e W4 ⟨rfl, hb⟩; replace B := Aside0.mk (below_then B.out B.out.size hb); replace S5 := Aside0.mk (S5.out.below hb); replace S6 := Aside0.mk (S6.out.below hb); replace S7 := Aside0.mk (S7.out.below hb); replace S8 := Aside0.mk (S8.out.below hb); replace T5 := Aside0.mk (T5.out.below hb); replace T6 := Aside0.mk (T6.out.below hb); replace T7 := Aside0.mk (T7.out.below hb); replace T8 := Aside0.mk (T8.out.below hb); replace Q5 := Aside0.mk (Q5.out.below hb); replace Q6 := Aside0.mk (Q6.out.below hb); replace X := Aside0.mk (X.out.below hb); replace hx := fun i => X.out.cell i; replace Y := Aside0.mk (Y.out.below hb); replace hy := fun i => Y.out.cell i; clear E6; clear  hb) | (go_at_call 52; (with_reducible refine (E7.out _ _ _ S7.out T7.out).mono ?_); rintro e W5 ⟨rfl, hb⟩; replace B := Aside0.mk (below_then B.out B.out.size hb); replace S5 := Aside0.mk (S5.out.below hb); replace S6 := Aside0.mk (S6.out.below hb); replace S7 := Aside0.mk (S7.out.below hb); replace S8 := Aside0.mk (S8.out.below hb); replace T5 := Aside0.mk (T5.out.below hb); replace T6 := Aside0.mk (T6.out.below hb); replace T7 := Aside0.mk (T7.out.below hb); replace T8 := Aside0.mk (T8.out.below hb); replace Q5 := Aside0.mk (Q5.out.below hb); replace Q6 := Aside0.mk (Q6.out.below hb); replace X := Aside0.mk (X.out.below hb); replace hx := fun i => X.out.cell i; replace Y := Aside0.mk (Y.out.below hb); replace hy := fun i => Y.out.cell i; clear E7; clear  hb) | (go_at_call 52; (with_reducible refine (E8.out _ _ _ S8.out T8.out).mono ?_); rintro e W6 ⟨rfl, hb⟩; replace B := Aside0.mk (below_then B.out B.out.size hb); replace S5 := Aside0.mk (S5.out.below hb); replace S6 := Aside0.mk (S6.out.below hb); replace S7 := Aside0.mk (S7.out.below hb); replace S8 := Aside0.mk (S8.out.below hb); replace T5 := Aside0.mk (T5.out.below hb); replace T6 := Aside0.mk (T6.out.below hb); replace T7 := Aside0.mk (T7.out.below hb); replace T8 := Aside0.mk (T8.out.below hb); replace Q5 := Aside0.mk (Q5.out.below hb); replace Q6 := Aside0.mk (Q6.out.below hb); replace X := Aside0.mk (X.out.below hb); replace hx := fun i => X.out.cell i; replace Y := Aside0.mk (Y.out.below hb); replace hy := fun i => Y.out.cell i; clear E8; clear  hb))
  all_goals go_wp2_with fail
  all_goals go_ret
  all_goals exact ⟨rfl, B.out⟩
end Go.Proofs.Ytgkplhdcafbfbaa.P
namespace Go.Proofs.Ytgkplhdcafbfbaa.P
open Go.RowKit Go.Shelf Go.Proofs.YtgkplhdcafbfbaaW.PrintWords Go.Proofs.YtgkplhdcafbfbaaW.PrintLast Go.Proofs.YtgkplhdcafbfbaaW.PrintMore
set_option maxHeartbeats 64000000 in
set_option maxRecDepth 100000 in
theorem scaleTwice_c (a : Hi) (first tt : Int) (hwa : wfI a) (hfi : i64 first) (htt : i64 tt) (w : World) (u x1 x2 : Value) (hx1 : x1 = .int .i64 first) (hx2 : x2 = .int .i64 tt) (hua : HI w u a) : Calls Try.prog 8 #[u, x1, x2] w fun e w' => e = .returned (.bool true) ∧ Below w.heap.size w w' := by
  subst hx1; subst hx2
  have hud := Try.underlying30
  obtain ⟨b1, hb1, cs⟩ := small25_c a hwa.2.2.2.2.2.1 hwa.2.2.2.2.2.2.1
  have CS := Aside0.mk cs
  clear cs
  cases b1 with
  | false =>
    clear hb1
    obtain ⟨A5a, c5a, A6a, c6a, A7a, c7a, A8a, c8a, e, -⟩ := hua.open_
    subst e
    have B := Aside0.mk (below_alloc (Below.refl w.heap.size w) (.cells #[.int .i64 a.f0, .int .u64 a.f1, .int .u64 a.f2, .int .u64 a.f3, .int .u64 a.f4, .slice A5a a.f5.length c5a, .slice A6a a.f6.length c6a, .slice A7a a.f7.length c7a, .slice A8a a.f8.length c8a] 30))
    have X := Aside0.mk (Blk.new w #[.int .i64 a.f0, .int .u64 a.f1, .int .u64 a.f2, .int .u64 a.f3, .int .u64 a.f4, .slice A5a a.f5.length c5a, .slice A6a a.f6.length c6a, .slice A7a a.f7.length c7a, .slice A8a a.f8.length c8a] 30)
    have hx := fun i => X.out.cell i
    have HA := Aside0.mk (hua.below B.out)
    clear hua
    go_enter Try.func8, Try.ntmps8
    go_wp2_with (first | (go_at_call 14; (with_reducible refine (CS.out _ _ HA.out).mono ?_); rintro e W1 ⟨rfl, hb⟩; replace B := Aside0.mk (below_then B.out B.out.size hb); replace HA := Aside0.mk (HA.out.below hb); replace X := Aside0.mk (X.out.below hb); replace hx := fun i => X.out.cell i; clear  hb) | (go_at_call 13; (with_reducible refine (awake25_c _).mono ?_); rintro e W2 ⟨rfl, hb⟩; replace B := Aside0.mk (below_then B.out B.out.size hb); replace HA := Aside0.mk (HA.out.below hb); replace X := Aside0.mk (X.out.below hb); replace hx := fun i => X.out.cell i; clear  hb))
    go_ret
    exact ⟨rfl, B.out⟩
  | true =>
  obtain ⟨n5, n6, n7, n8⟩ := hb1 rfl
  have hWa := wfH_of hwa (by omega) (by omega)
  obtain ⟨⟨x, e⟩, hx⟩ : ∃ r, scaleR a first = r := ⟨_, rfl⟩
  have n1 := scale25_c a x e first hWa hfi hx
  have N1 := Aside0.mk n1
  by_cases c1 : e = 0
  rotate_left
  · have d1 : (e != 0) = true := bne_iff_ne.2 c1
    clear c1 n1 hx n5 n6 n7 n8 hb1 hwa hfi htt hWa
    obtain ⟨A5a, c5a, A6a, c6a, A7a, c7a, A8a, c8a, e, -⟩ := hua.open_
    subst e
    have B := Aside0.mk (below_alloc (Below.refl w.heap.size w) (.cells #[.int .i64 a.f0, .int .u64 a.f1, .int .u64 a.f2, .int .u64 a.f3, .int .u64 a.f4, .slice A5a a.f5.length c5a, .slice A6a a.f6.length c6a, .slice A7a a.f7.length c7a, .slice A8a a.f8.length c8a] 30))
    have X := Aside0.mk (Blk.new w #[.int .i64 a.f0, .int .u64 a.f1, .int .u64 a.f2, .int .u64 a.f3, .int .u64 a.f4, .slice A5a a.f5.length c5a, .slice A6a a.f6.length c6a, .slice A7a a.f7.length c7a, .slice A8a a.f8.length c8a] 30)
    have hx := fun i => X.out.cell i
    have HA := Aside0.mk (hua.below B.out)
    clear hua
    go_enter Try.func8, Try.ntmps8
    go_wp2_with (first | (go_at_call 14; (with_reducible refine (CS.out _ _ HA.out).mono ?_); rintro e W1 ⟨rfl, hb⟩; replace B := Aside0.mk (below_then B.out B.out.size hb); replace HA := Aside0.mk (HA.out.below hb); replace X := Aside0.mk (X.out.below hb); replace hx := fun i => X.out.cell i; clear  hb) | (go_at_call 15; (with_reducible refine (N1.out _ _ HA.out).mono ?_); rintro e W2 ⟨D5x, g5x, D6x, g6x, D7x, g7x, D8x, g8x, rfl, hh, hb⟩; replace B := Aside0.mk (below_then B.out B.out.size hb); replace HA := Aside0.mk (HA.out.below hb); replace X := Aside0.mk (X.out.below hb); replace hx := fun i => X.out.cell i; have HX := Aside0.mk hh; have hxa := fun i => (X.out.alloc (.cells #[.int .i64 x.f0, .int .u64 x.f1, .int .u64 x.f2, .int .u64 x.f3, .int .u64 x.f4, .slice D5x x.f5.length g5x, .slice D6x x.f6.length g6x, .slice D7x x.f7.length g7x, .slice D8x x.f8.length g8x] 30)).cell i; clear hh hb))
    (try clear hxa)
    have hal := below_alloc (Below.refl W2.heap.size W2) (.cells #[.int .i64 x.f0, .int .u64 x.f1, .int .u64 x.f2, .int .u64 x.f3, .int .u64 x.f4, .slice D5x x.f5.length g5x, .slice D6x x.f6.length g6x, .slice D7x x.f7.length g7x, .slice D8x x.f8.length g8x] 30)
    replace B := Aside0.mk (below_then B.out B.out.size hal)
    replace HA := Aside0.mk (HA.out.below hal)
    replace HX := Aside0.mk (HX.out.below hal)
    replace X := Aside0.mk (X.out.alloc (.cells #[.int .i64 x.f0, .int .u64 x.f1, .int .u64 x.f2, .int .u64 x.f3, .int .u64 x.f4, .slice D5x x.f5.length g5x, .slice D6x x.f6.length g6x, .slice D7x x.f7.length g7x, .slice D8x x.f8.length g8x] 30)); replace hx := fun i => X.out.cell i
    have P := Aside0.mk (Blk.new W2 #[.int .i64 x.f0, .int .u64 x.f1, .int .u64 x.f2, .int .u64 x.f3, .int .u64 x.f4, .slice D5x x.f5.length g5x, .slice D6x x.f6.length g6x, .slice D7x x.f7.length g7x, .slice D8x x.f8.length g8x] 30); have hp := fun i => P.out.cell i; clear hal
    go_wp2_with (first | (go_at_call 13; (with_reducible refine (awake25_c _).mono ?_); rintro e W3 ⟨rfl, hb⟩; replace B := Aside0.mk (below_then B.out B.out.size hb); replace HA := Aside0.mk (HA.out.below hb); replace HX := Aside0.mk (HX.out.below hb); replace X := Aside0.mk (X.out.below hb); replace hx := fun i => X.out.cell i; replace P := Aside0.mk (P.out.below hb); replace hp := fun i => P.out.cell i; clear  hb))
    go_ret
    exact ⟨rfl, B.out⟩
  subst c1
  obtain ⟨wx, hgt, hle, hcan⟩ := scaleTwice_plain (tt := tt) hWa (by omega) (by omega) hx
  obtain ⟨⟨y, f⟩, hy⟩ : ∃ r, scaleR x tt = r := ⟨_, rfl⟩
  have ly := scaleR_lens wx htt
  rw [hy] at ly hgt hle
  have n2 := scale25_c x y f tt wx htt hy
  have N2 := Aside0.mk n2
  by_cases c2 : tt > first
  · have d2 : decide (first < tt) = true := decide_eq_true c2
    have d2' : decide (tt > first) = true := decide_eq_true c2
    have e2 := hgt c2
    simp only at e2
    subst e2
    obtain ⟨⟨z, g⟩, hz⟩ : ∃ r, scaleR a tt = r := ⟨_, rfl⟩
    have n3 := scale25_c a z g tt hWa htt hz
    have N3 := Aside0.mk n3
    clear c2 n1 n2 n3 hx hy hz hgt hle hcan ly wx n5 n6 n7 n8 hb1 hwa hfi htt hWa
    obtain ⟨A5a, c5a, A6a, c6a, A7a, c7a, A8a, c8a, e, -⟩ := hua.open_
    subst e
    have B := Aside0.mk (below_alloc (Below.refl w.heap.size w) (.cells #[.int .i64 a.f0, .int .u64 a.f1, .int .u64 a.f2, .int .u64 a.f3, .int .u64 a.f4, .slice A5a a.f5.length c5a, .slice A6a a.f6.length c6a, .slice A7a a.f7.length c7a, .slice A8a a.f8.length c8a] 30))
    have X := Aside0.mk (Blk.new w #[.int .i64 a.f0, .int .u64 a.f1, .int .u64 a.f2, .int .u64 a.f3, .int .u64 a.f4, .slice A5a a.f5.length c5a, .slice A6a a.f6.length c6a, .slice A7a a.f7.length c7a, .slice A8a a.f8.length c8a] 30)
    have hx := fun i => X.out.cell i
    have HA := Aside0.mk (hua.below B.out)
    clear hua
    go_enter Try.func8, Try.ntmps8
    go_wp2_with (first | (go_at_call 14; (with_reducible refine (CS.out _ _ HA.out).mono ?_); rintro e W1 ⟨rfl, hb⟩; replace B := Aside0.mk (below_then B.out B.out.size hb); replace HA := Aside0.mk (HA.out.below hb); replace X := Aside0.mk (X.out.below hb); replace hx := fun i => X.out.cell i; clear  hb) | (go_at_call 15; (with_reducible refine (N1.out _ _ HA.out).mono ?_); rintro e W2 ⟨D5x, g5x, D6x, g6x, D7x, g7x, D8x, g8x, rfl, hh, hb⟩; replace B := Aside0.mk (below_then B.out B.out.size hb); replace HA := Aside0.mk (HA.out.below hb); replace X := Aside0.mk (X.out.below hb); replace hx := fun i => X.out.cell i; have HX := Aside0.mk hh; have hxa := fun i => (X.out.alloc (.cells #[.int .i64 x.f0, .int .u64 x.f1, .int .u64 x.f2, .int .u64 x.f3, .int .u64 x.f4, .slice D5x x.f5.length g5x, .slice D6x x.f6.length g6x, .slice D7x x.f7.length g7x, .slice D8x x.f8.length g8x] 30)).cell i; clear hh hb))
    (try clear hxa)
    have hal := below_alloc (Below.refl W2.heap.size W2) (.cells #[.int .i64 x.f0, .int .u64 x.f1, .int .u64 x.f2, .int .u64 x.f3, .int .u64 x.f4, .slice D5x x.f5.length g5x, .slice D6x x.f6.length g6x, .slice D7x x.f7.length g7x, .slice D8x x.f8.length g8x] 30)
    replace B := Aside0.mk (below_then B.out B.out.size hal)
    replace HA := Aside0.mk (HA.out.below hal)
    replace HX := Aside0.mk (HX.out.below hal)
    replace X := Aside0.mk (X.out.alloc (.cells #[.int .i64 x.f0, .int .u64 x.f1, .int .u64 x.f2, .int .u64 x.f3, .int .u64 x.f4, .slice D5x x.f5.length g5x, .slice D6x x.f6.length g6x, .slice D7x x.f7.length g7x, .slice D8x x.f8.length g8x] 30)); replace hx := fun i => X.out.cell i
    have P := Aside0.mk (Blk.new W2 #[.int .i64 x.f0, .int .u64 x.f1, .int .u64 x.f2, .int .u64 x.f3, .int .u64 x.f4, .slice D5x x.f5.length g5x, .slice D6x x.f6.length g6x, .slice D7x x.f7.length g7x, .slice D8x x.f8.length g8x] 30); have hp := fun i => P.out.cell i; clear hal
    go_wp2_with (first | (go_at_call 15; (with_reducible refine (N2.out _ _ HX.out).mono ?_); rintro e W3 ⟨D5y, g5y, D6y, g6y, D7y, g7y, D8y, g8y, rfl, hh, hb⟩; replace B := Aside0.mk (below_then B.out B.out.size hb); replace HA := Aside0.mk (HA.out.below hb); replace HX := Aside0.mk (HX.out.below hb); replace X := Aside0.mk (X.out.below hb); replace hx := fun i => X.out.cell i; replace P := Aside0.mk (P.out.below hb); replace hp := fun i => P.out.cell i; have HY := Aside0.mk hh; have hxa := fun i => (X.out.alloc (.cells #[.int .i64 y.f0, .int .u64 y.f1, .int .u64 y.f2, .int .u64 y.f3, .int .u64 y.f4, .slice D5y y.f5.length g5y, .slice D6y y.f6.length g6y, .slice D7y y.f7.length g7y, .slice D8y y.f8.length g8y] 30)).cell i; have hpa := fun i => (P.out.alloc (.cells #[.int .i64 y.f0, .int .u64 y.f1, .int .u64 y.f2, .int .u64 y.f3, .int .u64 y.f4, .slice D5y y.f5.length g5y, .slice D6y y.f6.length g6y, .slice D7y y.f7.length g7y, .slice D8y y.f8.length g8y] 30)).cell i; clear hh hb))
    (try clear hxa hpa)
    have hal := below_alloc (Below.refl W3.heap.size W3) (.cells #[.int .i64 y.f0, .int .u64 y.f1, .int .u64 y.f2, .int .u64 y.f3, .int .u64 y.f4, .slice D5y y.f5.length g5y, .slice D6y y.f6.length g6y, .slice D7y y.f7.length g7y, .slice D8y y.f8.length g8y] 30)
    replace B := Aside0.mk (below_then B.out B.out.size hal)
    replace HA := Aside0.mk (HA.out.below hal)
    replace HX := Aside0.mk (HX.out.below hal)
    replace HY := Aside0.mk (HY.out.below hal)
    replace X := Aside0.mk (X.out.alloc (.cells #[.int .i64 y.f0, .int .u64 y.f1, .int .u64 y.f2, .int .u64 y.f3, .int .u64 y.f4, .slice D5y y.f5.length g5y, .slice D6y y.f6.length g6y, .slice D7y y.f7.length g7y, .slice D8y y.f8.length g8y] 30)); replace hx := fun i => X.out.cell i
    replace P := Aside0.mk (P.out.alloc (.cells #[.int .i64 y.f0, .int .u64 y.f1, .int .u64 y.f2, .int .u64 y.f3, .int .u64 y.f4, .slice D5y y.f5.length g5y, .slice D6y y.f6.length g6y, .slice D7y y.f7.length g7y, .slice D8y y.f8.length g8y] 30)); replace hp := fun i => P.out.cell i
    have Q := Aside0.mk (Blk.new W3 #[.int .i64 y.f0, .int .u64 y.f1, .int .u64 y.f2, .int .u64 y.f3, .int .u64 y.f4, .slice D5y y.f5.length g5y, .slice D6y y.f6.length g6y, .slice D7y y.f7.length g7y, .slice D8y y.f8.length g8y] 30); have hq := fun i => Q.out.cell i; clear hal
    go_wp2_with (first | (go_at_call 15; (with_reducible refine (N3.out _ _ HA.out).mono ?_); rintro e W4 ⟨D5z, g5z, D6z, g6z, D7z, g7z, D8z, g8z, rfl, hh, hb⟩; replace B := Aside0.mk (below_then B.out B.out.size hb); replace HA := Aside0.mk (HA.out.below hb); replace HX := Aside0.mk (HX.out.below hb); replace HY := Aside0.mk (HY.out.below hb); replace X := Aside0.mk (X.out.below hb); replace hx := fun i => X.out.cell i; replace P := Aside0.mk (P.out.below hb); replace hp := fun i => P.out.cell i; replace Q := Aside0.mk (Q.out.below hb); replace hq := fun i => Q.out.cell i; have HZ := Aside0.mk hh; have hxa := fun i => (X.out.alloc (.cells #[.int .i64 z.f0, .int .u64 z.f1, .int .u64 z.f2, .int .u64 z.f3, .int .u64 z.f4, .slice D5z z.f5.length g5z, .slice D6z z.f6.length g6z, .slice D7z z.f7.length g7z, .slice D8z z.f8.length g8z] 30)).cell i; have hpa := fun i => (P.out.alloc (.cells #[.int .i64 z.f0, .int .u64 z.f1, .int .u64 z.f2, .int .u64 z.f3, .int .u64 z.f4, .slice D5z z.f5.length g5z, .slice D6z z.f6.length g6z, .slice D7z z.f7.length g7z, .slice D8z z.f8.length g8z] 30)).cell i; have hqa := fun i => (Q.out.alloc (.cells #[.int .i64 z.f0, .int .u64 z.f1, .int .u64 z.f2, .int .u64 z.f3, .int .u64 z.f4, .slice D5z z.f5.length g5z, .slice D6z z.f6.length g6z, .slice D7z z.f7.length g7z, .slice D8z z.f8.length g8z] 30)).cell i; clear hh hb))
    (try clear hxa hpa hqa)
    have hal := below_alloc (Below.refl W4.heap.size W4) (.cells #[.int .i64 z.f0, .int .u64 z.f1, .int .u64 z.f2, .int .u64 z.f3, .int .u64 z.f4, .slice D5z z.f5.length g5z, .slice D6z z.f6.length g6z, .slice D7z z.f7.length g7z, .slice D8z z.f8.length g8z] 30)
    replace B := Aside0.mk (below_then B.out B.out.size hal)
    replace HA := Aside0.mk (HA.out.below hal)
    replace HX := Aside0.mk (HX.out.below hal)
    replace HY := Aside0.mk (HY.out.below hal)
    replace HZ := Aside0.mk (HZ.out.below hal)
    replace X := Aside0.mk (X.out.alloc (.cells #[.int .i64 z.f0, .int .u64 z.f1, .int .u64 z.f2, .int .u64 z.f3, .int .u64 z.f4, .slice D5z z.f5.length g5z, .slice D6z z.f6.length g6z, .slice D7z z.f7.length g7z, .slice D8z z.f8.length g8z] 30)); replace hx := fun i => X.out.cell i
    replace P := Aside0.mk (P.out.alloc (.cells #[.int .i64 z.f0, .int .u64 z.f1, .int .u64 z.f2, .int .u64 z.f3, .int .u64 z.f4, .slice D5z z.f5.length g5z, .slice D6z z.f6.length g6z, .slice D7z z.f7.length g7z, .slice D8z z.f8.length g8z] 30)); replace hp := fun i => P.out.cell i
    replace Q := Aside0.mk (Q.out.alloc (.cells #[.int .i64 z.f0, .int .u64 z.f1, .int .u64 z.f2, .int .u64 z.f3, .int .u64 z.f4, .slice D5z z.f5.length g5z, .slice D6z z.f6.length g6z, .slice D7z z.f7.length g7z, .slice D8z z.f8.length g8z] 30)); replace hq := fun i => Q.out.cell i
    have U := Aside0.mk (Blk.new W4 #[.int .i64 z.f0, .int .u64 z.f1, .int .u64 z.f2, .int .u64 z.f3, .int .u64 z.f4, .slice D5z z.f5.length g5z, .slice D6z z.f6.length g6z, .slice D7z z.f7.length g7z, .slice D8z z.f8.length g8z] 30); have hu := fun i => U.out.cell i; clear hal
    go_wp2_with (first | (go_at_call 13; (with_reducible refine (awake25_c _).mono ?_); rintro e W5 ⟨rfl, hb⟩; replace B := Aside0.mk (below_then B.out B.out.size hb); replace HA := Aside0.mk (HA.out.below hb); replace HX := Aside0.mk (HX.out.below hb); replace HY := Aside0.mk (HY.out.below hb); replace HZ := Aside0.mk (HZ.out.below hb); replace X := Aside0.mk (X.out.below hb); replace hx := fun i => X.out.cell i; replace P := Aside0.mk (P.out.below hb); replace hp := fun i => P.out.cell i; replace Q := Aside0.mk (Q.out.below hb); replace hq := fun i => Q.out.cell i; replace U := Aside0.mk (U.out.below hb); replace hu := fun i => U.out.cell i; clear  hb))
    go_ret
    exact ⟨rfl, B.out⟩
  have d2 : decide (first < tt) = false := decide_eq_false (by omega)
  have d2' : decide (tt > first) = false := decide_eq_false (by omega)
  have n3 := scale25_c a y f tt hWa htt (hle (by omega)).symm
  have N3 := Aside0.mk n3
  obtain ⟨⟨c, k⟩, hc⟩ : ∃ r, canonR a = r := ⟨_, rfl⟩
  have lc := canonR_lens hWa
  rw [hc] at lc
  have n4 := canon25_c a c k hWa hc
  have n5' := scale25_c a c k a.f0 hWa hWa.1 (hcan.trans hc)
  have N4 := Aside0.mk n4
  have N5 := Aside0.mk n5'
  have I1 := Aside0.mk (ints25_c y (by have := ly.l5; simp only at this; omega) (by have := ly.l6; simp only at this; omega))
  have I2 := Aside0.mk (ints25_c c (by have := lc.l5; simp only at this; omega) (by have := lc.l6; simp only at this; omega))
  have J1 := Aside0.mk (isInts25_c y (by have := ly.l5; simp only at this; omega) (by have := ly.l6; simp only at this; omega) (by have := ly.l7; simp only at this; omega) (by have := ly.l8; simp only at this; omega))
  have J2 := Aside0.mk (isInts25_c c (by have := lc.l5; simp only at this; omega) (by have := lc.l6; simp only at this; omega) (by have := lc.l7; simp only at this; omega) (by have := lc.l8; simp only at this; omega))
  have d3 : (f == f) = true := beq_self_eq_true _
  have d4 : (k == k) = true := beq_self_eq_true _
  clear c2 n1 n2 n3 n4 n5' hx hy hc hgt hle hcan ly lc wx n5 n6 n7 n8 hb1 hwa hfi htt hWa
  obtain ⟨A5a, c5a, A6a, c6a, A7a, c7a, A8a, c8a, e, -⟩ := hua.open_
  subst e
  have B := Aside0.mk (below_alloc (Below.refl w.heap.size w) (.cells #[.int .i64 a.f0, .int .u64 a.f1, .int .u64 a.f2, .int .u64 a.f3, .int .u64 a.f4, .slice A5a a.f5.length c5a, .slice A6a a.f6.length c6a, .slice A7a a.f7.length c7a, .slice A8a a.f8.length c8a] 30))
  have X := Aside0.mk (Blk.new w #[.int .i64 a.f0, .int .u64 a.f1, .int .u64 a.f2, .int .u64 a.f3, .int .u64 a.f4, .slice A5a a.f5.length c5a, .slice A6a a.f6.length c6a, .slice A7a a.f7.length c7a, .slice A8a a.f8.length c8a] 30)
  have hx := fun i => X.out.cell i
  have HA := Aside0.mk (hua.below B.out)
  clear hua
  go_enter Try.func8, Try.ntmps8
  go_wp2_with (first | (go_at_call 14; (with_reducible refine (CS.out _ _ HA.out).mono ?_); rintro e W1 ⟨rfl, hb⟩; replace B := Aside0.mk (below_then B.out B.out.size hb); replace HA := Aside0.mk (HA.out.below hb); replace X := Aside0.mk (X.out.below hb); replace hx := fun i => X.out.cell i; clear  hb) | (go_at_call 15; (with_reducible refine (N1.out _ _ HA.out).mono ?_); rintro e W2 ⟨D5x, g5x, D6x, g6x, D7x, g7x, D8x, g8x, rfl, hh, hb⟩; replace B := Aside0.mk (below_then B.out B.out.size hb); replace HA := Aside0.mk (HA.out.below hb); replace X := Aside0.mk (X.out.below hb); replace hx := fun i => X.out.cell i; have HX := Aside0.mk hh; have hxa := fun i => (X.out.alloc (.cells #[.int .i64 x.f0, .int .u64 x.f1, .int .u64 x.f2, .int .u64 x.f3, .int .u64 x.f4, .slice D5x x.f5.length g5x, .slice D6x x.f6.length g6x, .slice D7x x.f7.length g7x, .slice D8x x.f8.length g8x] 30)).cell i; clear hh hb))
  (try clear hxa)
  have hal := below_alloc (Below.refl W2.heap.size W2) (.cells #[.int .i64 x.f0, .int .u64 x.f1, .int .u64 x.f2, .int .u64 x.f3, .int .u64 x.f4, .slice D5x x.f5.length g5x, .slice D6x x.f6.length g6x, .slice D7x x.f7.length g7x, .slice D8x x.f8.length g8x] 30)
  replace B := Aside0.mk (below_then B.out B.out.size hal)
  replace HA := Aside0.mk (HA.out.below hal)
  replace HX := Aside0.mk (HX.out.below hal)
  replace X := Aside0.mk (X.out.alloc (.cells #[.int .i64 x.f0, .int .u64 x.f1, .int .u64 x.f2, .int .u64 x.f3, .int .u64 x.f4, .slice D5x x.f5.length g5x, .slice D6x x.f6.length g6x, .slice D7x x.f7.length g7x, .slice D8x x.f8.length g8x] 30)); replace hx := fun i => X.out.cell i
  have P := Aside0.mk (Blk.new W2 #[.int .i64 x.f0, .int .u64 x.f1, .int .u64 x.f2, .int .u64 x.f3, .int .u64 x.f4, .slice D5x x.f5.length g5x, .slice D6x x.f6.length g6x, .slice D7x x.f7.length g7x, .slice D8x x.f8.length g8x] 30); have hp := fun i => P.out.cell i; clear hal
  go_wp2_with (first | (go_at_call 15; (with_reducible refine (N2.out _ _ HX.out).mono ?_); rintro e W3 ⟨D5y, g5y, D6y, g6y, D7y, g7y, D8y, g8y, rfl, hh, hb⟩; replace B := Aside0.mk (below_then B.out B.out.size hb); replace HA := Aside0.mk (HA.out.below hb); replace HX := Aside0.mk (HX.out.below hb); replace X := Aside0.mk (X.out.below hb); replace hx := fun i => X.out.cell i; replace P := Aside0.mk (P.out.below hb); replace hp := fun i => P.out.cell i; have HY := Aside0.mk hh; have hxa := fun i => (X.out.alloc (.cells #[.int .i64 y.f0, .int .u64 y.f1, .int .u64 y.f2, .int .u64 y.f3, .int .u64 y.f4, .slice D5y y.f5.length g5y, .slice D6y y.f6.length g6y, .slice D7y y.f7.length g7y, .slice D8y y.f8.length g8y] 30)).cell i; have hpa := fun i => (P.out.alloc (.cells #[.int .i64 y.f0, .int .u64 y.f1, .int .u64 y.f2, .int .u64 y.f3, .int .u64 y.f4, .slice D5y y.f5.length g5y, .slice D6y y.f6.length g6y, .slice D7y y.f7.length g7y, .slice D8y y.f8.length g8y] 30)).cell i; clear hh hb))
  (try clear hxa hpa)
  have hal := below_alloc (Below.refl W3.heap.size W3) (.cells #[.int .i64 y.f0, .int .u64 y.f1, .int .u64 y.f2, .int .u64 y.f3, .int .u64 y.f4, .slice D5y y.f5.length g5y, .slice D6y y.f6.length g6y, .slice D7y y.f7.length g7y, .slice D8y y.f8.length g8y] 30)
  replace B := Aside0.mk (below_then B.out B.out.size hal)
  replace HA := Aside0.mk (HA.out.below hal)
  replace HX := Aside0.mk (HX.out.below hal)
  replace HY := Aside0.mk (HY.out.below hal)
  replace X := Aside0.mk (X.out.alloc (.cells #[.int .i64 y.f0, .int .u64 y.f1, .int .u64 y.f2, .int .u64 y.f3, .int .u64 y.f4, .slice D5y y.f5.length g5y, .slice D6y y.f6.length g6y, .slice D7y y.f7.length g7y, .slice D8y y.f8.length g8y] 30)); replace hx := fun i => X.out.cell i
  replace P := Aside0.mk (P.out.alloc (.cells #[.int .i64 y.f0, .int .u64 y.f1, .int .u64 y.f2, .int .u64 y.f3, .int .u64 y.f4, .slice D5y y.f5.length g5y, .slice D6y y.f6.length g6y, .slice D7y y.f7.length g7y, .slice D8y y.f8.length g8y] 30)); replace hp := fun i => P.out.cell i
  have Q := Aside0.mk (Blk.new W3 #[.int .i64 y.f0, .int .u64 y.f1, .int .u64 y.f2, .int .u64 y.f3, .int .u64 y.f4, .slice D5y y.f5.length g5y, .slice D6y y.f6.length g6y, .slice D7y y.f7.length g7y, .slice D8y y.f8.length g8y] 30); have hq := fun i => Q.out.cell i; clear hal
  go_wp2_with (first | (go_at_call 15; (with_reducible refine (N3.out _ _ HA.out).mono ?_); rintro e W4 ⟨D5z, g5z, D6z, g6z, D7z, g7z, D8z, g8z, rfl, hh, hb⟩; replace B := Aside0.mk (below_then B.out B.out.size hb); replace HA := Aside0.mk (HA.out.below hb); replace HX := Aside0.mk (HX.out.below hb); replace HY := Aside0.mk (HY.out.below hb); replace X := Aside0.mk (X.out.below hb); replace hx := fun i => X.out.cell i; replace P := Aside0.mk (P.out.below hb); replace hp := fun i => P.out.cell i; replace Q := Aside0.mk (Q.out.below hb); replace hq := fun i => Q.out.cell i; have HZ := Aside0.mk hh; have hxa := fun i => (X.out.alloc (.cells #[.int .i64 y.f0, .int .u64 y.f1, .int .u64 y.f2, .int .u64 y.f3, .int .u64 y.f4, .slice D5z y.f5.length g5z, .slice D6z y.f6.length g6z, .slice D7z y.f7.length g7z, .slice D8z y.f8.length g8z] 30)).cell i; have hpa := fun i => (P.out.alloc (.cells #[.int .i64 y.f0, .int .u64 y.f1, .int .u64 y.f2, .int .u64 y.f3, .int .u64 y.f4, .slice D5z y.f5.length g5z, .slice D6z y.f6.length g6z, .slice D7z y.f7.length g7z, .slice D8z y.f8.length g8z] 30)).cell i; have hqa := fun i => (Q.out.alloc (.cells #[.int .i64 y.f0, .int .u64 y.f1, .int .u64 y.f2, .int .u64 y.f3, .int .u64 y.f4, .slice D5z y.f5.length g5z, .slice D6z y.f6.length g6z, .slice D7z y.f7.length g7z, .slice D8z y.f8.length g8z] 30)).cell i; clear hh hb))
  (try clear hxa hpa hqa)
  have hal := below_alloc (Below.refl W4.heap.size W4) (.cells #[.int .i64 y.f0, .int .u64 y.f1, .int .u64 y.f2, .int .u64 y.f3, .int .u64 y.f4, .slice D5z y.f5.length g5z, .slice D6z y.f6.length g6z, .slice D7z y.f7.length g7z, .slice D8z y.f8.length g8z] 30)
  replace B := Aside0.mk (below_then B.out B.out.size hal)
  replace HA := Aside0.mk (HA.out.below hal)
  replace HX := Aside0.mk (HX.out.below hal)
  replace HY := Aside0.mk (HY.out.below hal)
  replace HZ := Aside0.mk (HZ.out.below hal)
  replace X := Aside0.mk (X.out.alloc (.cells #[.int .i64 y.f0, .int .u64 y.f1, .int .u64 y.f2, .int .u64 y.f3, .int .u64 y.f4, .slice D5z y.f5.length g5z, .slice D6z y.f6.length g6z, .slice D7z y.f7.length g7z, .slice D8z y.f8.length g8z] 30)); replace hx := fun i => X.out.cell i
  replace P := Aside0.mk (P.out.alloc (.cells #[.int .i64 y.f0, .int .u64 y.f1, .int .u64 y.f2, .int .u64 y.f3, .int .u64 y.f4, .slice D5z y.f5.length g5z, .slice D6z y.f6.length g6z, .slice D7z y.f7.length g7z, .slice D8z y.f8.length g8z] 30)); replace hp := fun i => P.out.cell i
  replace Q := Aside0.mk (Q.out.alloc (.cells #[.int .i64 y.f0, .int .u64 y.f1, .int .u64 y.f2, .int .u64 y.f3, .int .u64 y.f4, .slice D5z y.f5.length g5z, .slice D6z y.f6.length g6z, .slice D7z y.f7.length g7z, .slice D8z y.f8.length g8z] 30)); replace hq := fun i => Q.out.cell i
  have U := Aside0.mk (Blk.new W4 #[.int .i64 y.f0, .int .u64 y.f1, .int .u64 y.f2, .int .u64 y.f3, .int .u64 y.f4, .slice D5z y.f5.length g5z, .slice D6z y.f6.length g6z, .slice D7z y.f7.length g7z, .slice D8z y.f8.length g8z] 30); have hu := fun i => U.out.cell i; clear hal
  go_wp2_with (first | (go_at_call 30; (with_reducible refine (N4.out _ _ HA.out).mono ?_); rintro e W5 ⟨D5c, g5c, D6c, g6c, D7c, g7c, D8c, g8c, rfl, hh, hb⟩; replace B := Aside0.mk (below_then B.out B.out.size hb); replace HA := Aside0.mk (HA.out.below hb); replace HX := Aside0.mk (HX.out.below hb); replace HY := Aside0.mk (HY.out.below hb); replace HZ := Aside0.mk (HZ.out.below hb); replace X := Aside0.mk (X.out.below hb); replace hx := fun i => X.out.cell i; replace P := Aside0.mk (P.out.below hb); replace hp := fun i => P.out.cell i; replace Q := Aside0.mk (Q.out.below hb); replace hq := fun i => Q.out.cell i; replace U := Aside0.mk (U.out.below hb); replace hu := fun i => U.out.cell i; have HC := Aside0.mk hh; have hxa := fun i => (X.out.alloc (.cells #[.int .i64 c.f0, .int .u64 c.f1, .int .u64 c.f2, .int .u64 c.f3, .int .u64 c.f4, .slice D5c c.f5.length g5c, .slice D6c c.f6.length g6c, .slice D7c c.f7.length g7c, .slice D8c c.f8.length g8c] 30)).cell i; have hpa := fun i => (P.out.alloc (.cells #[.int .i64 c.f0, .int .u64 c.f1, .int .u64 c.f2, .int .u64 c.f3, .int .u64 c.f4, .slice D5c c.f5.length g5c, .slice D6c c.f6.length g6c, .slice D7c c.f7.length g7c, .slice D8c c.f8.length g8c] 30)).cell i; have hqa := fun i => (Q.out.alloc (.cells #[.int .i64 c.f0, .int .u64 c.f1, .int .u64 c.f2, .int .u64 c.f3, .int .u64 c.f4, .slice D5c c.f5.length g5c, .slice D6c c.f6.length g6c, .slice D7c c.f7.length g7c, .slice D8c c.f8.length g8c] 30)).cell i; have hua := fun i => (U.out.alloc (.cells #[.int .i64 c.f0, .int .u64 c.f1, .int .u64 c.f2, .int .u64 c.f3, .int .u64 c.f4, .slice D5c c.f5.length g5c, .slice D6c c.f6.length g6c, .slice D7c c.f7.length g7c, .slice D8c c.f8.length g8c] 30)).cell i; clear hh hb))
  (try clear hxa hpa hqa hua)
  have hal := below_alloc (Below.refl W5.heap.size W5) (.cells #[.int .i64 c.f0, .int .u64 c.f1, .int .u64 c.f2, .int .u64 c.f3, .int .u64 c.f4, .slice D5c c.f5.length g5c, .slice D6c c.f6.length g6c, .slice D7c c.f7.length g7c, .slice D8c c.f8.length g8c] 30)
  replace B := Aside0.mk (below_then B.out B.out.size hal)
  replace HA := Aside0.mk (HA.out.below hal)
  replace HX := Aside0.mk (HX.out.below hal)
  replace HY := Aside0.mk (HY.out.below hal)
  replace HZ := Aside0.mk (HZ.out.below hal)
  replace HC := Aside0.mk (HC.out.below hal)
  replace X := Aside0.mk (X.out.alloc (.cells #[.int .i64 c.f0, .int .u64 c.f1, .int .u64 c.f2, .int .u64 c.f3, .int .u64 c.f4, .slice D5c c.f5.length g5c, .slice D6c c.f6.length g6c, .slice D7c c.f7.length g7c, .slice D8c c.f8.length g8c] 30)); replace hx := fun i => X.out.cell i
  replace P := Aside0.mk (P.out.alloc (.cells #[.int .i64 c.f0, .int .u64 c.f1, .int .u64 c.f2, .int .u64 c.f3, .int .u64 c.f4, .slice D5c c.f5.length g5c, .slice D6c c.f6.length g6c, .slice D7c c.f7.length g7c, .slice D8c c.f8.length g8c] 30)); replace hp := fun i => P.out.cell i
  replace Q := Aside0.mk (Q.out.alloc (.cells #[.int .i64 c.f0, .int .u64 c.f1, .int .u64 c.f2, .int .u64 c.f3, .int .u64 c.f4, .slice D5c c.f5.length g5c, .slice D6c c.f6.length g6c, .slice D7c c.f7.length g7c, .slice D8c c.f8.length g8c] 30)); replace hq := fun i => Q.out.cell i
  replace U := Aside0.mk (U.out.alloc (.cells #[.int .i64 c.f0, .int .u64 c.f1, .int .u64 c.f2, .int .u64 c.f3, .int .u64 c.f4, .slice D5c c.f5.length g5c, .slice D6c c.f6.length g6c, .slice D7c c.f7.length g7c, .slice D8c c.f8.length g8c] 30)); replace hu := fun i => U.out.cell i
  have S := Aside0.mk (Blk.new W5 #[.int .i64 c.f0, .int .u64 c.f1, .int .u64 c.f2, .int .u64 c.f3, .int .u64 c.f4, .slice D5c c.f5.length g5c, .slice D6c c.f6.length g6c, .slice D7c c.f7.length g7c, .slice D8c c.f8.length g8c] 30); have hs := fun i => S.out.cell i; clear hal
  go_wp2_with (first | (go_at_call 15; (with_reducible refine (N5.out _ _ HA.out).mono ?_); rintro e W6 ⟨D5o, g5o, D6o, g6o, D7o, g7o, D8o, g8o, rfl, hh, hb⟩; replace B := Aside0.mk (below_then B.out B.out.size hb); replace HA := Aside0.mk (HA.out.below hb); replace HX := Aside0.mk (HX.out.below hb); replace HY := Aside0.mk (HY.out.below hb); replace HZ := Aside0.mk (HZ.out.below hb); replace HC := Aside0.mk (HC.out.below hb); replace X := Aside0.mk (X.out.below hb); replace hx := fun i => X.out.cell i; replace P := Aside0.mk (P.out.below hb); replace hp := fun i => P.out.cell i; replace Q := Aside0.mk (Q.out.below hb); replace hq := fun i => Q.out.cell i; replace U := Aside0.mk (U.out.below hb); replace hu := fun i => U.out.cell i; replace S := Aside0.mk (S.out.below hb); replace hs := fun i => S.out.cell i; have HO := Aside0.mk hh; have hxa := fun i => (X.out.alloc (.cells #[.int .i64 c.f0, .int .u64 c.f1, .int .u64 c.f2, .int .u64 c.f3, .int .u64 c.f4, .slice D5o c.f5.length g5o, .slice D6o c.f6.length g6o, .slice D7o c.f7.length g7o, .slice D8o c.f8.length g8o] 30)).cell i; have hpa := fun i => (P.out.alloc (.cells #[.int .i64 c.f0, .int .u64 c.f1, .int .u64 c.f2, .int .u64 c.f3, .int .u64 c.f4, .slice D5o c.f5.length g5o, .slice D6o c.f6.length g6o, .slice D7o c.f7.length g7o, .slice D8o c.f8.length g8o] 30)).cell i; have hqa := fun i => (Q.out.alloc (.cells #[.int .i64 c.f0, .int .u64 c.f1, .int .u64 c.f2, .int .u64 c.f3, .int .u64 c.f4, .slice D5o c.f5.length g5o, .slice D6o c.f6.length g6o, .slice D7o c.f7.length g7o, .slice D8o c.f8.length g8o] 30)).cell i; have hua := fun i => (U.out.alloc (.cells #[.int .i64 c.f0, .int .u64 c.f1, .int .u64 c.f2, .int .u64 c.f3, .int .u64 c.f4, .slice D5o c.f5.length g5o, .slice D6o c.f6.length g6o, .slice D7o c.f7.length g7o, .slice D8o c.f8.length g8o] 30)).cell i; have hsa := fun i => (S.out.alloc (.cells #[.int .i64 c.f0, .int .u64 c.f1, .int .u64 c.f2, .int .u64 c.f3, .int .u64 c.f4, .slice D5o c.f5.length g5o, .slice D6o c.f6.length g6o, .slice D7o c.f7.length g7o, .slice D8o c.f8.length g8o] 30)).cell i; clear hh hb))
  (try clear hxa hpa hqa hua hsa)
  have hal := below_alloc (Below.refl W6.heap.size W6) (.cells #[.int .i64 c.f0, .int .u64 c.f1, .int .u64 c.f2, .int .u64 c.f3, .int .u64 c.f4, .slice D5o c.f5.length g5o, .slice D6o c.f6.length g6o, .slice D7o c.f7.length g7o, .slice D8o c.f8.length g8o] 30)
  replace B := Aside0.mk (below_then B.out B.out.size hal)
  replace HA := Aside0.mk (HA.out.below hal)
  replace HX := Aside0.mk (HX.out.below hal)
  replace HY := Aside0.mk (HY.out.below hal)
  replace HZ := Aside0.mk (HZ.out.below hal)
  replace HC := Aside0.mk (HC.out.below hal)
  replace HO := Aside0.mk (HO.out.below hal)
  replace X := Aside0.mk (X.out.alloc (.cells #[.int .i64 c.f0, .int .u64 c.f1, .int .u64 c.f2, .int .u64 c.f3, .int .u64 c.f4, .slice D5o c.f5.length g5o, .slice D6o c.f6.length g6o, .slice D7o c.f7.length g7o, .slice D8o c.f8.length g8o] 30)); replace hx := fun i => X.out.cell i
  replace P := Aside0.mk (P.out.alloc (.cells #[.int .i64 c.f0, .int .u64 c.f1, .int .u64 c.f2, .int .u64 c.f3, .int .u64 c.f4, .slice D5o c.f5.length g5o, .slice D6o c.f6.length g6o, .slice D7o c.f7.length g7o, .slice D8o c.f8.length g8o] 30)); replace hp := fun i => P.out.cell i
  replace Q := Aside0.mk (Q.out.alloc (.cells #[.int .i64 c.f0, .int .u64 c.f1, .int .u64 c.f2, .int .u64 c.f3, .int .u64 c.f4, .slice D5o c.f5.length g5o, .slice D6o c.f6.length g6o, .slice D7o c.f7.length g7o, .slice D8o c.f8.length g8o] 30)); replace hq := fun i => Q.out.cell i
  replace U := Aside0.mk (U.out.alloc (.cells #[.int .i64 c.f0, .int .u64 c.f1, .int .u64 c.f2, .int .u64 c.f3, .int .u64 c.f4, .slice D5o c.f5.length g5o, .slice D6o c.f6.length g6o, .slice D7o c.f7.length g7o, .slice D8o c.f8.length g8o] 30)); replace hu := fun i => U.out.cell i
  replace S := Aside0.mk (S.out.alloc (.cells #[.int .i64 c.f0, .int .u64 c.f1, .int .u64 c.f2, .int .u64 c.f3, .int .u64 c.f4, .slice D5o c.f5.length g5o, .slice D6o c.f6.length g6o, .slice D7o c.f7.length g7o, .slice D8o c.f8.length g8o] 30)); replace hs := fun i => S.out.cell i
  have T := Aside0.mk (Blk.new W6 #[.int .i64 c.f0, .int .u64 c.f1, .int .u64 c.f2, .int .u64 c.f3, .int .u64 c.f4, .slice D5o c.f5.length g5o, .slice D6o c.f6.length g6o, .slice D7o c.f7.length g7o, .slice D8o c.f8.length g8o] 30); have ht := fun i => T.out.cell i; clear hal
  replace HA := Aside0.mk (HA.out.below (below_drew (Below.refl _ _)))
  replace HX := Aside0.mk (HX.out.below (below_drew (Below.refl _ _)))
  replace HY := Aside0.mk (HY.out.below (below_drew (Below.refl _ _)))
  replace HZ := Aside0.mk (HZ.out.below (below_drew (Below.refl _ _)))
  replace HC := Aside0.mk (HC.out.below (below_drew (Below.refl _ _)))
  replace HO := Aside0.mk (HO.out.below (below_drew (Below.refl _ _)))
  replace X := Aside0.mk (X.out.below (below_drew (Below.refl _ _)))
  replace P := Aside0.mk (P.out.below (below_drew (Below.refl _ _)))
  replace Q := Aside0.mk (Q.out.below (below_drew (Below.refl _ _)))
  replace U := Aside0.mk (U.out.below (below_drew (Below.refl _ _)))
  replace S := Aside0.mk (S.out.below (below_drew (Below.refl _ _)))
  replace T := Aside0.mk (T.out.below (below_drew (Below.refl _ _)))
  replace B := Aside0.mk (below_drew B.out)
  go_region_held3 (fun W => (∀ i, W.cell? ⟨w.heap.size, i, none⟩ = (#[.int .i64 a.f0, .int .u64 a.f1, .int .u64 a.f2, .int .u64 a.f3, .int .u64 a.f4, .slice A5a a.f5.length c5a, .slice A6a a.f6.length c6a, .slice A7a a.f7.length c7a, .slice A8a a.f8.length c8a] : Array Value)[i]?) ∧ (∀ i, W.cell? ⟨W3.heap.size, i, none⟩ = (#[.int .i64 y.f0, .int .u64 y.f1, .int .u64 y.f2, .int .u64 y.f3, .int .u64 y.f4, .slice D5y y.f5.length g5y, .slice D6y y.f6.length g6y, .slice D7y y.f7.length g7y, .slice D8y y.f8.length g8y] : Array Value)[i]?) ∧ (∀ i, W.cell? ⟨W4.heap.size, i, none⟩ = (#[.int .i64 y.f0, .int .u64 y.f1, .int .u64 y.f2, .int .u64 y.f3, .int .u64 y.f4, .slice D5z y.f5.length g5z, .slice D6z y.f6.length g6z, .slice D7z y.f7.length g7z, .slice D8z y.f8.length g8z] : Array Value)[i]?) ∧ (∀ i, W.cell? ⟨W5.heap.size, i, none⟩ = (#[.int .i64 c.f0, .int .u64 c.f1, .int .u64 c.f2, .int .u64 c.f3, .int .u64 c.f4, .slice D5c c.f5.length g5c, .slice D6c c.f6.length g6c, .slice D7c c.f7.length g7c, .slice D8c c.f8.length g8c] : Array Value)[i]?) ∧ (∀ i, W.cell? ⟨W6.heap.size, i, none⟩ = (#[.int .i64 c.f0, .int .u64 c.f1, .int .u64 c.f2, .int .u64 c.f3, .int .u64 c.f4, .slice D5o c.f5.length g5o, .slice D6o c.f6.length g6o, .slice D7o c.f7.length g7o, .slice D8o c.f8.length g8o] : Array Value)[i]?)) (exact ⟨fun i => X.out.cell i, fun i => Q.out.cell i, fun i => U.out.cell i, fun i => S.out.cell i, fun i => T.out.cell i⟩) (first | (go_at_call 17; (with_reducible refine (I1.out _ _ HZ.out).mono ?_); rintro e W7 ⟨ra, rfl, hr, hb⟩; replace B := Aside0.mk (below_then B.out B.out.size hb); replace HA := Aside0.mk (HA.out.below hb); replace HX := Aside0.mk (HX.out.below hb); replace HY := Aside0.mk (HY.out.below hb); replace HZ := Aside0.mk (HZ.out.below hb); replace HC := Aside0.mk (HC.out.below hb); replace HO := Aside0.mk (HO.out.below hb); replace X := Aside0.mk (X.out.below hb); replace hx := fun i => X.out.cell i; replace P := Aside0.mk (P.out.below hb); replace hp := fun i => P.out.cell i; replace Q := Aside0.mk (Q.out.below hb); replace hq := fun i => Q.out.cell i; replace U := Aside0.mk (U.out.below hb); replace hu := fun i => U.out.cell i; replace S := Aside0.mk (S.out.below hb); replace hs := fun i => S.out.cell i; replace T := Aside0.mk (T.out.below hb); replace ht := fun i => T.out.cell i; (try (replace RB := Aside0.mk (RB.out.below hb))); have RA := Aside0.mk hr; clear I1; clear hr hb) | (go_at_call 18; (with_reducible refine (J1.out _ _ _ HY.out RA.out).mono ?_); rintro e W8 ⟨rfl, hb⟩; replace B := Aside0.mk (below_then B.out B.out.size hb); replace HA := Aside0.mk (HA.out.below hb); replace HX := Aside0.mk (HX.out.below hb); replace HY := Aside0.mk (HY.out.below hb); replace HZ := Aside0.mk (HZ.out.below hb); replace HC := Aside0.mk (HC.out.below hb); replace HO := Aside0.mk (HO.out.below hb); replace X := Aside0.mk (X.out.below hb); replace hx := fun i => X.out.cell i; replace P := Aside0.mk (P.out.below hb); replace hp := fun i => P.out.cell i; replace Q := Aside0.mk (Q.out.below hb); replace hq := fun i => Q.out.cell i; replace U := Aside0.mk (U.out.below hb); replace hu := fun i => U.out.cell i; replace S := Aside0.mk (S.out.below hb); replace hs := fun i => S.out.cell i; replace T := Aside0.mk (T.out.below hb); replace ht := fun i => T.out.cell i; (try (replace RA := Aside0.mk (RA.out.below hb))); clear J1; clear  hb) | (go_at_call 17; (with_reducible refine (I2.out _ _ HO.out).mono ?_); rintro e W9 ⟨rb, rfl, hr, hb⟩; replace B := Aside0.mk (below_then B.out B.out.size hb); replace HA := Aside0.mk (HA.out.below hb); replace HX := Aside0.mk (HX.out.below hb); replace HY := Aside0.mk (HY.out.below hb); replace HZ := Aside0.mk (HZ.out.below hb); replace HC := Aside0.mk (HC.out.below hb); replace HO := Aside0.mk (HO.out.below hb); replace X := Aside0.mk (X.out.below hb); replace hx := fun i => X.out.cell i; replace P := Aside0.mk (P.out.below hb); replace hp := fun i => P.out.cell i; replace Q := Aside0.mk (Q.out.below hb); replace hq := fun i => Q.out.cell i; replace U := Aside0.mk (U.out.below hb); replace hu := fun i => U.out.cell i; replace S := Aside0.mk (S.out.below hb); replace hs := fun i => S.out.cell i; replace T := Aside0.mk (T.out.below hb); replace ht := fun i => T.out.cell i; (try (replace RA := Aside0.mk (RA.out.below hb))); have RB := Aside0.mk hr; clear I2; clear hr hb) | (go_at_call 18; (with_reducible refine (J2.out _ _ _ HC.out RB.out).mono ?_); rintro e W10 ⟨rfl, hb⟩; replace B := Aside0.mk (below_then B.out B.out.size hb); replace HA := Aside0.mk (HA.out.below hb); replace HX := Aside0.mk (HX.out.below hb); replace HY := Aside0.mk (HY.out.below hb); replace HZ := Aside0.mk (HZ.out.below hb); replace HC := Aside0.mk (HC.out.below hb); replace HO := Aside0.mk (HO.out.below hb); replace X := Aside0.mk (X.out.below hb); replace hx := fun i => X.out.cell i; replace P := Aside0.mk (P.out.below hb); replace hp := fun i => P.out.cell i; replace Q := Aside0.mk (Q.out.below hb); replace hq := fun i => Q.out.cell i; replace U := Aside0.mk (U.out.below hb); replace hu := fun i => U.out.cell i; replace S := Aside0.mk (S.out.below hb); replace hs := fun i => S.out.cell i; replace T := Aside0.mk (T.out.below hb); replace ht := fun i => T.out.cell i; clear J2; clear  hb) | (go_at_call 13; (with_reducible refine (awake25_c _).mono ?_); rintro e W11 ⟨rfl, hb⟩; replace B := Aside0.mk (below_then B.out B.out.size hb); replace HA := Aside0.mk (HA.out.below hb); replace HX := Aside0.mk (HX.out.below hb); replace HY := Aside0.mk (HY.out.below hb); replace HZ := Aside0.mk (HZ.out.below hb); replace HC := Aside0.mk (HC.out.below hb); replace HO := Aside0.mk (HO.out.below hb); replace X := Aside0.mk (X.out.below hb); replace hx := fun i => X.out.cell i; replace P := Aside0.mk (P.out.below hb); replace hp := fun i => P.out.cell i; replace Q := Aside0.mk (Q.out.below hb); replace hq := fun i => Q.out.cell i; replace U := Aside0.mk (U.out.below hb); replace hu := fun i => U.out.cell i; replace S := Aside0.mk (S.out.below hb); replace hs := fun i => S.out.cell i; replace T := Aside0.mk (T.out.below hb); replace ht := fun i => T.out.cell i; clear  hb))
  all_goals go_wp2_with fail
  all_goals go_ret
  all_goals exact ⟨rfl, B.out⟩
def tidepolelaw25_ScaleTwice.f (s0 z0 zc0 ct0 sm0 : Int) (l0_5 l0_6 : List Sp) (l0_7 l0_8 : List Int) (first : Int) (tt : Int) : Option Bool := if wfI ⟨s0, z0, zc0, ct0, sm0, l0_5, l0_6, l0_7, l0_8⟩ ∧ i64 first ∧ i64 tt then some true else none
theorem tidepolelaw25_ScaleTwice.calls (s0 : Int) (z0 : Int) (zc0 : Int) (ct0 : Int) (sm0 : Int) (A0_5 : Option Addr) (c0_5 : Nat) (l0_5 : List Sp) (A0_6 : Option Addr) (c0_6 : Nat) (l0_6 : List Sp) (A0_7 : Option Addr) (c0_7 : Nat) (l0_7 : List Int) (A0_8 : Option Addr) (c0_8 : Nat) (l0_8 : List Int) (first : Int) (tt : Int) (r : Bool) (w : World) (hr0_5 : Kd.C kSp w A0_5 l0_5.length l0_5) (hc0_5 : l0_5.length ≤ c0_5) (hr0_6 : Kd.C kSp w A0_6 l0_6.length l0_6) (hc0_6 : l0_6.length ≤ c0_6) (hr0_7 : Kd.C (Kd.int .i64) w A0_7 l0_7.length l0_7) (hc0_7 : l0_7.length ≤ c0_7) (hr0_8 : Kd.C (Kd.int .i64) w A0_8 l0_8.length l0_8) (hc0_8 : l0_8.length ≤ c0_8) (h : tidepolelaw25_ScaleTwice.f s0 z0 zc0 ct0 sm0 l0_5 l0_6 l0_7 l0_8 first tt = some r) :
    Calls Try.prog 8 #[.agg #[.int .i64 s0, .int .u64 z0, .int .u64 zc0, .int .u64 ct0, .int .u64 sm0, .slice A0_5 l0_5.length c0_5, .slice A0_6 l0_6.length c0_6, .slice A0_7 l0_7.length c0_7, .slice A0_8 l0_8.length c0_8], .int .i64 first, .int .i64 tt] w fun e w' => e = .returned (.bool r) ∧ Below w.heap.size w w' := by
  obtain ⟨⟨q0, q1, q2⟩, rfl⟩ := of_ite_some h
  exact scaleTwice_c _ _ _ q0 q1 q2 w _ _ _ rfl rfl (HI.mk (h := ⟨s0, z0, zc0, ct0, sm0, l0_5, l0_6, l0_7, l0_8⟩) (.of hr0_5 hc0_5) (.of hr0_6 hc0_6) (.of hr0_7 hc0_7) (.of hr0_8 hc0_8))
end Go.Proofs.Ytgkplhdcafbfbaa.P
namespace Go.Proofs.Ytgkplhdcafbfbaa.P
def headSigns : List Char := List.map Char.ofNat [104, 97, 114, 110, 101, 115, 115, 32, 48, 57, 48, 56, 53, 100, 56, 99, 51, 55, 101, 56, 50, 49, 53, 48, 57, 56, 101, 48, 49, 53, 51, 97, 99, 99, 48, 52, 50, 54, 48, 49, 53, 57, 50, 102, 50, 57, 100, 102, 50, 49, 99, 99, 57, 99, 51, 52, 101, 49, 57, 51, 98, 48, 55, 51, 55, 49, 53, 100, 98, 97, 101, 100, 32, 99, 117, 116, 32, 97, 116, 32, 116, 105, 100, 101, 112, 111, 108, 101, 47, 116, 105, 100, 101, 112, 111, 108, 101, 108, 97, 119, 50, 53, 46, 83, 99, 97, 108, 101, 80, 108, 97, 99, 101, 115, 32, 116, 105, 100, 101, 112, 111, 108, 101, 47, 116, 105, 100, 101, 112, 111, 108, 101, 108, 97, 119, 50, 53, 46, 83, 99, 97, 108, 101, 73, 110, 116, 115, 32, 116, 105, 100, 101, 112, 111, 108, 101, 47, 116, 105, 100, 101, 112, 111, 108, 101, 108, 97, 119, 50, 53, 46, 83, 99, 97, 108, 101, 70, 108, 111, 97, 116, 115, 32, 116, 105, 100, 101, 112, 111, 108, 101, 47, 116, 105, 100, 101, 112, 111, 108, 101, 108, 97, 119, 50, 53, 46, 83, 99, 97, 108, 101, 75, 101, 101, 112, 115, 32, 116, 105, 100, 101, 112, 111, 108, 101, 47, 116, 105, 100, 101, 112, 111, 108, 101, 108, 97, 119, 50, 53, 46, 83, 99, 97, 108, 101, 70, 105, 116, 115, 32, 116, 105, 100, 101, 112, 111, 108, 101, 47, 116, 105, 100, 101, 112, 111, 108, 101, 108, 97, 119, 50, 53, 46, 83, 99, 97, 108, 101, 84, 119, 105, 99, 101, 32, 116, 105, 100, 101, 112, 111, 108, 101, 47, 116, 105, 100, 101, 112, 111, 108, 101, 108, 97, 119, 50, 53, 46, 83, 99, 97, 108, 101, 82, 101, 115, 101, 116, 115, 32, 116, 105, 100, 101, 112, 111, 108, 101, 47, 116, 105, 100, 101, 112, 111, 108, 101, 108, 97, 119, 50, 57, 46, 82, 97, 110, 107, 83, 99, 97, 108, 101, 115]
theorem head_is : Try.prog.initOrder = String.ofList headSigns := by kernel_rfl
theorem head_signs : Try.prog.initOrder.toList = headSigns := by rw [head_is]; exact String.toList_ofList
theorem head_first : (behindMainWord (wordsSigns headSigns)).head? = some "cut".toList := by kernel_rfl
theorem head_words : ∃ r, behindMainWord (wordsSigns headSigns) = "cut".toList :: r := by have h := head_first; cases h2 : behindMainWord (wordsSigns headSigns) with | nil => rw [h2] at h; cases h | cons c r => rw [h2] at h; injection h with h; exact ⟨r, by rw [h]⟩
theorem strip_cut (r : List (List Char)) : stripLifts liftWords ("cut".toList :: r) = ([], "cut".toList :: r) := by kernel_rfl
theorem head_lifts : Try.prog.headLifts = [] := by obtain ⟨r, hr⟩ := head_words; unfold Program.headLifts; rw [head_signs, hr, strip_cut]; kernel_rfl
theorem head_doorFits : Try.prog.doorFits [] = true := by kernel_rfl
theorem head_laysLater : Try.prog.laysLater = false := by kernel_rfl
theorem head_bearsReflect : Try.prog.bearsReflect = false := by kernel_rfl
theorem mayEnter_of {P : Program} {L : List Char} {r : List (List Char)} (h1 : P.initOrder.toList = L) (h2 : behindMainWord (wordsSigns L) = "cut".toList :: r) (h3 : P.doorFits [] = true) (h4 : P.laysLater = false) (h5 : P.bearsReflect = false) : P.mayEnter = true := by unfold Program.mayEnter; rw [h1, h2]; simp only [strip_cut, h3, h4, h5]; kernel_rfl
theorem head_mayEnter : Try.prog.mayEnter = true := by obtain ⟨r, hr⟩ := head_words; exact mayEnter_of head_signs hr head_doorFits head_laysLater head_bearsReflect
theorem head_liftsFinal : Try.prog.liftsFinal = false := by obtain ⟨r, hr⟩ := head_words; unfold Program.liftsFinal; rw [head_signs, head_lifts, hr]; kernel_rfl
theorem make_of {P : Program} {L : List Char} {r : List (List Char)} (h1 : P.initOrder.toList = L) (h2 : behindMainWord (wordsSigns L) = "cut".toList :: r) : P.make = some .cut := by unfold Program.make; rw [h1, h2]; kernel_rfl
theorem head_make : Try.prog.make = some .cut := by obtain ⟨r, hr⟩ := head_words; exact make_of head_signs hr
theorem head_laidOut : laidOutB Try.prog = true := by kernel_rfl
theorem head_mapsRowed : mapsRowed Try.prog = true := by kernel_rfl
theorem head_stops : (Try.prog.stops == []) = true := by kernel_rfl
theorem head_stopKnobs : (Try.prog.stopKnobs == []) = true := by kernel_rfl
theorem head_plainKeys : Try.prog.plainKeys = true := by kernel_rfl
theorem head_stopsHeard : Try.prog.stopsHeard = true := by kernel_rfl
end Go.Proofs.Ytgkplhdcafbfbaa.P
namespace Go.Proofs.Ytgkplhdcafbfbaa.Pure
open Go.RowKit Go.Proofs.Ytgkplhdcafbfbaa.P Go.Proofs.YtgkplhdcafbfbaaW.PrintWords
theorem ScaleTwice : ∀ (x0 : S30) (a1 : Int) (a2 : Int), wf30 x0 → (inI .i64) a1 → (inI .i64) a2 → tidepolelaw25_ScaleTwice.f x0.f0 x0.f1 x0.f2 x0.f3 x0.f4 x0.f5 x0.f6 x0.f7 x0.f8 a1 a2 = some true := fun _ _ _ h0 h1 h2 => if_pos ⟨wfI_of h0, i64_of h1, i64_of h2⟩
end Go.Proofs.Ytgkplhdcafbfbaa.Pure
namespace Go.Proofs.Ytgkplhdcafbfbaa.scaleTwice
open Go.ChangeShapes Go.WideShapes Go.ChangeAt Go.RowKit Go.Proofs.Ytgkplhdcafbfbaa.P Go.Proofs.YtgkplhdcafbfbaaW.PrintWords
theorem own : ownKnob Try.prog.godebug = none := by kernel_rfl
theorem laidOut : laidOutB Try.prog = true := by kernel_rfl
set_option maxRecDepth 100000 in
set_option maxHeartbeats 4000000 in
theorem lifted (os : Os) (started : os.Started) (H : Type) (enc : TypeId × Value → H) :
    ReturnsInHanded {} Try.checked os 8 .any (Rows.scaleTwiceSpec.pre6 enc Try.prog Try.f8 Rows.scaleTwiceRow.domain false) (Rows.scaleTwiceSpec.post enc Try.prog Try.f8 false true false false) := by
  refine returnsInHanded_of_change_sized (C := Try.checked) own started (by kernel_rfl) Try.func8
    (ChangeSpec.witness6 (enc := enc) (C := Try.checked) false ⟨#[], #[.agg #[.int .i64 0, .int .u64 0, .int .u64 0, .int .u64 0, .int .u64 0, .slice none 0 0, .slice none 0 0, .slice none 0 0, .slice none 0 0], .int .i64 0, .int .i64 0], []⟩ 8 (by kernel_rfl) (by kernel_rfl) (by kernel_rfl) (by kernel_rfl)) ?_
  intro W base args ds gs before hval0 hW hcnd hsz0 _
  have hval : ∀ (j : Nat) t v, Try.f8.params[j]? = some t → args[j]? = some v → Value.okWide Try.prog W .any base t v := hval0
  have hW' := hW
  obtain ⟨p, q, hA0, hV, rfl, hfz, hnd⟩ := hW
  have hA : DataW.TrodAll enc Try.prog W 0 (fun _ => true) true Try.f8.params.toList args.toList ds p := hA0
  rw [Try.params8] at hA hval
  obtain ⟨v0, vs0, d0, ds0, p0, q0, hargs, rfl, rfl, h0, r0⟩ := trodAll_cons hA
  obtain ⟨v1, vs1, d1, ds1, p1, q1, rfl, rfl, rfl, h1, r1⟩ := trodAll_cons r0
  obtain ⟨v2, vs2, d2, ds2, p2, q2, rfl, rfl, rfl, h2, r2⟩ := trodAll_cons r1
  obtain ⟨rfl, rfl, rfl⟩ := trodAll_nil r2
  obtain rfl : args = #[v0, v1, v2] := by cases args; simp_all
  obtain ⟨rfl, rfl⟩ := trodVars_none hV
  have k0 := h0
  have lt0 : ∀ x ∈ p0, x.block < W.heap.size := by obtain ⟨m, hm⟩ := k0; exact DataW.trod_lt m _ _ _ hm
  obtain ⟨fu0, hf0⟩ := h0
  obtain ⟨x0, hK0, w0⟩ := opens30 enc W 0 _ true fu0 _ _ hf0
  obtain ⟨cs0, rfl, _⟩ := okWide_struct Try.underlying30 (hval 0 30 v0 rfl rfl)
  obtain ⟨A0_5, c0_5, A0_6, c0_6, A0_7, c0_7, A0_8, c0_8, he0, h0_5_l, hC0_5, h0_6_l, hC0_6, h0_7_l, hC0_7, h0_8_l, hC0_8⟩ := k30_open hK0
  obtain rfl : cs0 = #[.int .i64 x0.f0, .int .u64 x0.f1, .int .u64 x0.f2, .int .u64 x0.f3, .int .u64 x0.f4, .slice A0_5 x0.f5.length c0_5, .slice A0_6 x0.f6.length c0_6, .slice A0_7 x0.f7.length c0_7, .slice A0_8 x0.f8.length c0_8] := by
    have he : cs0.toList = _ := he0
    exact Array.toList_inj.1 he
  obtain ⟨a1, rfl, rfl, rfl, w1⟩ := open_int Try.underlying3 (hval 1 3 v1 rfl rfl) h1
  obtain ⟨a2, rfl, rfl, rfl, w2⟩ := open_int Try.underlying3 (hval 2 3 v2 rfl rfl) h2
  clear hA0 hval0 hsz0
  obtain hk := Pure.ScaleTwice x0 a1 a2 w0 w1 w2
  refine (P.tidepolelaw25_ScaleTwice.calls x0.f0 x0.f1 x0.f2 x0.f3 x0.f4 A0_5 c0_5 x0.f5 A0_6 c0_6 x0.f6 A0_7 c0_7 x0.f7 A0_8 c0_8 x0.f8 a1 a2 true W hC0_5 h0_5_l hC0_6 h0_6_l hC0_7 h0_7_l hC0_8 h0_8_l hk).mono fun e W' ⟨he, bel⟩ => ?_
  subst he
  exact ⟨_, rfl, _, _, _, [], _, [], hW', trodAll_mk1 (shut_bool Try.underlying4 _), (trodAll_cons_mk (Below.trod laidOut (by kernel_rfl) (of_decide_eq_true (by kernel_rfl)) k0 bel lt0) (trodAll_cons_mk (shut_int Try.underlying3 w1) (trodAll_cons_mk (shut_int Try.underlying3 w2) trodAll_mk0))), rfl, bel.frame _, fun h => by cases h⟩
theorem cf0 : (Rows.scaleTwiceRow.wf (OpenSpec.ofChange Rows.scaleTwiceSpec)) = true := by kernel_rfl
theorem cf1 : (laidOutB Try.prog) = true := P.head_laidOut
theorem cf2 : (mapsRowed Try.prog) = true := P.head_mapsRowed
theorem cf3 : (Try.f8.params.all (Try.prog.readableRec ·)) = true := by kernel_rfl
theorem cf4 : (namedTie Try.prog Rows.scaleTwiceRow.named Rows.scaleTwiceSpec.vars) = true := by kernel_rfl
theorem cf5 : ((Rows.scaleTwiceRow.stops == [])) = true := by kernel_rfl
theorem cf6 : ((Try.prog.stops == [])) = true := P.head_stops
theorem cf7 : ((Rows.scaleTwiceRow.knobs == [])) = true := by kernel_rfl
theorem cf8 : ((Try.prog.stopKnobs == [])) = true := P.head_stopKnobs
theorem cf9 : ((Rows.scaleTwiceRow.inPlace == Try.prog.inPlace 8)) = true := by kernel_rfl
theorem cf10 : ((Rows.scaleTwiceRow.unfollowed == Try.prog.unfollowed 8)) = true := by kernel_rfl
theorem cf11 : ((Rows.scaleTwiceRow.recurses == Try.prog.recurses 8)) = true := by kernel_rfl
theorem cf12 : ((Rows.scaleTwiceRow.named == Try.prog.varsNamed 8)) = true := by kernel_rfl
theorem cf13 : ((Rows.scaleTwiceRow.maps == (Try.f8.params.toList ++ Rows.scaleTwiceSpec.plain.varTypes Try.prog).any (Try.prog.mapsRec ·))) = true := by kernel_rfl
theorem cf14 : ((Rows.scaleTwiceRow.ifaces == (Try.f8.params.toList ++ Rows.scaleTwiceSpec.plain.varTypes Try.prog).any (Try.prog.ifacesRec ·))) = true := by kernel_rfl
theorem cf15 : ((Rows.scaleTwiceRow.mapsOut == Try.prog.mapsAmong Try.f8.resultTypes.toList)) = true := by kernel_rfl
theorem cf16 : ((Rows.scaleTwiceRow.loops == (Try.f8.params.toList ++ Rows.scaleTwiceSpec.plain.varTypes Try.prog).any (Try.prog.loopsFrom ·))) = true := by kernel_rfl
theorem cf17 : ((Rows.scaleTwiceRow.wideKeys == (Try.f8.params.toList ++ Rows.scaleTwiceSpec.plain.varTypes Try.prog ++ Try.f8.resultTypes.toList).any (Try.prog.wideKeysFrom ·))) = true := by kernel_rfl
theorem cf18 : (Rows.scaleTwiceSpec.vars.all (Try.prog.varReadable ·)) = true := by kernel_rfl
theorem cf19 : (Try.f8.resultTypes.all (fun t => Try.prog.readableRec t && decide (t < Try.prog.types.size))) = true := by kernel_rfl
theorem cf20 : ((Rows.scaleTwiceRow.ifacesOut == Try.f8.resultTypes.toList.any (Try.prog.ifacesRec ·))) = true := by kernel_rfl
theorem cf21 : ((Rows.scaleTwiceRow.loopsOut == Try.f8.resultTypes.toList.any (Try.prog.loopsFrom ·))) = true := by kernel_rfl
theorem cf22 : ((Rows.scaleTwiceRow.plainKeys == Try.prog.plainKeys)) = true := by rw [P.head_plainKeys]; kernel_rfl
theorem cf23 : (Rows.scaleTwiceRow.shortTexts.isNone) = true := by kernel_rfl
theorem cf24 : (Try.prog.stopsHeard) = true := P.head_stopsHeard
theorem cf25 : (Try.prog.mayEnter) = true := P.head_mayEnter
theorem cf26 : ((Rows.scaleTwiceRow.lifted == Try.prog.liftsFinal)) = true := by rw [P.head_liftsFinal]; kernel_rfl
theorem cf27 : ((Try.prog.make == some Rows.scaleTwiceRow.make)) = true := by rw [P.head_make]; kernel_rfl
theorem cf28 : ((Rows.scaleTwiceRow.kinds == (if Rows.scaleTwiceRow.domain.isEmpty then [] else Try.f8.params.toList.map fun t => match Try.prog.underlying t with | some (.int k) => some k | _ => none))) = true := by kernel_rfl
theorem cf29 : ((Rows.scaleTwiceRow.pinned == Rows.scaleTwiceRow.pinnedBy)) = true := by kernel_rfl
theorem cf30 : ((Rows.scaleTwiceRow.veiled == (Try.f8.params.toList ++ Rows.scaleTwiceSpec.plain.varTypes Try.prog ++ Try.f8.resultTypes.toList).any (Try.prog.veiledRec ·))) = true := by kernel_rfl
theorem cf31 : (Rows.scaleTwiceRow.veiledFits Try.prog Try.f8.params.toList (Try.f8.params.toList ++ Rows.scaleTwiceSpec.plain.varTypes Try.prog ++ Try.f8.resultTypes.toList)) = true := by kernel_rfl
theorem band_mk {a b : Bool} (h : a = true) (k : b = true) : (a && b) = true := by rw [h, k]; rfl
theorem closed : joinedFacts Try.prog 8 Try.f8 Rows.scaleTwiceSpec Rows.scaleTwiceRow = true := by unfold joinedFacts; exact (band_mk (band_mk (band_mk (band_mk (band_mk (band_mk (band_mk (band_mk (band_mk (band_mk (band_mk (band_mk (band_mk (band_mk (band_mk (band_mk (band_mk (band_mk (band_mk (band_mk (band_mk (band_mk (band_mk (band_mk (band_mk (band_mk (band_mk (band_mk (band_mk (band_mk (band_mk cf0 cf1) cf2) cf3) cf4) cf5) cf6) cf7) cf8) cf9) cf10) cf11) cf12) cf13) cf14) cf15) cf16) cf17) cf18) cf19) cf20) cf21) cf22) cf23) cf24) cf25) cf26) cf27) (by kernel_rfl)) cf29) cf30) cf31)
theorem over : Rows.scaleTwiceRow.holds Try.pinned (OpenSpec.ofChange Rows.scaleTwiceSpec) :=
  OpenClaim.holds_of_wide 8 Try.f8 rfl rfl rfl rfl rfl rfl rfl ⟨rfl, rfl, rfl, rfl, rfl⟩ rfl rfl rfl rfl rfl (by kernel_rfl) Try.func8 closed
    (of_decide_eq_true (by kernel_rfl)) (by unfold Func.isWrapper; first | (rw [if_pos (by decide +kernel)]; kernel_rfl) | (rw [if_neg (by decide +kernel)]; exact ⟨rfl, rfl⟩))
    (fun os started H enc _ => lifted os started H enc)
theorem proved : Rows.ScaleTwiceSaid := over
#print axioms proved
end Go.Proofs.Ytgkplhdcafbfbaa.scaleTwice
namespace Go.Proofs.Ytgkplhdcafbfbaa
theorem scaleTwice_holds : Rows.ScaleTwiceSaid := scaleTwice.proved
end Go.Proofs.Ytgkplhdcafbfbaa
