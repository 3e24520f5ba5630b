/- FhistEqual: the part that this text bears of the proof that the statement answers true for every input. No condition. -/
import Derived.Test.YtacgeafjilipdaaProg
import Derived.Below
import Derived.Deep.Draws
import Derived.Deep.AppendLies
import Derived.Maps.AppendAt
import Derived.OwnWalk
import Derived.Laws.BytesArg
import Derived.Laws.MakeOwn
import Derived.Laws.OwnMore
import Derived.Deep.OwnRows
import Derived.Tactics
import Derived.Lib.ConvBytes
import Derived.Laws.Slices
import Derived.WalkKit
import Derived.KernelRfl
import Derived.RowKit3
import Derived.Deep.LoopGhost
import Derived.Deep.QuietTactic
import Derived.BigQuiet
import Derived.WideLaws
import Derived.Deep.DeepCutAuto
import Derived.Deep.CutBlock
import Derived.Deep.RegionHeld3
import Derived.Laws.Rows
import Derived.Lib.AppendStr
import Derived.ArgAppend
import Derived.Laws.IdiomCopy
import Derived.OrdersHeld
import Derived.Laws.BitsLemmas
import Derived.RowKit
import Derived.Deep.Slices
import Derived.ChangeArms
import Derived.Shelf.Abstract
import Derived.WalkSpells
import Derived.RangeFuncNested
import Derived.RangeFuncBound
import Derived.RangeFuncCalls
import Derived.RangeFuncLeaves
import Derived.RangeFuncBox
import Derived.OwnWalkIn
import Derived.TacticsInMore
import Derived.LoopNIn
import Derived.LoopIn
import Derived.RegionIn
import Derived.Sort.QuietTacIn
import Derived.Deep.RegionWith
import Derived.Laws.BitsAllLaws
import Derived.ChangeKeysEq
import Derived.Great.Frames
import Derived.Laws.Externs
import Derived.ProofKit
import Derived.JoinedOf
import Derived.OpenShut
import Derived.ShutString
import Derived.ChangeOld
import Derived.SizedLaws
import Derived.Test.YtacgeafjilipdaaQFhistEqualWWords
import Derived.Test.YtacgeafjilipdaaQFhistEqualWLast
import Derived.Test.YtacgeafjilipdaaQFhistEqualWTab
import Derived.Test.YtacgeafjilipdaaQFhistEqualWFour
import Derived.Test.YtacgeafjilipdaaQFhistEqualWQPut
import Derived.Test.YtacgeafjilipdaaQFhistEqualWApart
import Derived.Test.YtacgeafjilipdaaQFhistEqualWArr
import Derived.Test.YtacgeafjilipdaaQFhistEqualWZeros
import Derived.Test.YtacgeafjilipdaaQFhistEqualWFoot
import Derived.Test.YtacgeafjilipdaaQFhistEqualWKept
import Derived.Test.YtacgeafjilipdaaQFhistEqualWShare
import Derived.Test.YtacgeafjilipdaaQFhistEqualWN
import Derived.Test.YtacgeafjilipdaaQFhistEqualWFootNe
import Derived.Test.YtacgeafjilipdaaQFhistEqualWAt
import Derived.Test.YtacgeafjilipdaaQFhistEqualWEqStruct
import Derived.Test.YtacgeafjilipdaaQFhistEqualWRepsOne
import Derived.Test.YtacgeafjilipdaaQFhistEqualWInv
import Derived.Test.YtacgeafjilipdaaQFhistEqualWInvWords
import Derived.Test.YtacgeafjilipdaaQFhistEqualWGuard
import Derived.Test.YtacgeafjilipdaaQFhistEqualWNEv
import Derived.Test.YtacgeafjilipdaaQFhistEqualWMore
import Derived.Test.YtacgeafjilipdaaRows
import Derived.Test.YtacgeafjilipdaaQFhistEqual0
import Derived.Test.YtacgeafjilipdaaQFhistEqual1
import Derived.Test.YtacgeafjilipdaaQFhistEqual2
namespace Go.Proofs.Ytacgeafjilipdaa.P
open Go.RowKit Go.Proofs.YtacgeafjilipdaaW.PrintWords Go.Proofs.YtacgeafjilipdaaW.PrintLast Go.Proofs.YtacgeafjilipdaaW.PrintMore
attribute [local go_sem] max2_int min2_int max_two min_two max_three min_three max_four min_four
set_option linter.unusedVariables false
set_option linter.unusedSimpArgs false
def tidepoleref10_Equal.j0 : Nat → Bool → Int → Int → Int → Int → Int → List (S147) → List (S147) → List Int → List Int → Int → Int → Int → Int → Int → List (S147) → List (S147) → List Int → List Int → Option (Bool)
 | 0, _, _, _, _, _, _, _, _, _, _, _, _, _, _, _, _, _, _, _ => none
 | k + 1, x47, x102000, x102001, x102002, x102003, x102004, x102005, x102006, x102007, x102008, x103000, x103001, x103002, x103003, x103004, x103005, x103006, x103007, x103008 => if x47 = true then (some false) else ((tidepoleref06_Places.f k x102005).bind fun t105 => ((tidepoleref06_Places.f k x103005).bind fun t108 => ((tidepoleref10_Same.f k t105 x102007 t108 x103007).bind fun t111 => (if t111 = true then ((tidepoleref06_Places.f k x102006).bind fun t112 => ((tidepoleref06_Places.f k x103006).bind fun t115 => ((tidepoleref10_Same.f k t112 x102008 t115 x103008).bind fun t118 => (some t118)))) else (some false)))))
def tidepoleref10_Equal.f (k : Nat) (a0_0 : Int) (a0_1 : Int) (a0_2 : Int) (a0_3 : Int) (a0_4 : Int) (l0_5 : List (S147)) (l0_6 : List (S147)) (l0_7 : List Int) (l0_8 : List Int) (a1_0 : Int) (a1_1 : Int) (a1_2 : Int) (a1_3 : Int) (a1_4 : Int) (l1_5 : List (S147)) (l1_6 : List (S147)) (l1_7 : List Int) (l1_8 : List Int) : Option (Bool) := (tidepoleref10_Check.f k a0_0 a0_1 a0_2 a0_3 a0_4 l0_5 l0_6 l0_7 l0_8).bind fun t103 => (if t103 = 0 then ((tidepoleref10_Check.f k a1_0 a1_1 a1_2 a1_3 a1_4 l1_5 l1_6 l1_7 l1_8).bind fun t104 => (if t104 = 0 then (if a0_0 = a1_0 then (if a0_1 = a1_1 then (if a0_2 = a1_2 then (if a0_3 = a1_3 then (tidepoleref10_Equal.j0 k (a0_4 != a1_4) a0_0 a0_1 a0_2 a0_3 a0_4 l0_5 l0_6 l0_7 l0_8 a1_0 a1_1 a1_2 a1_3 a1_4 l1_5 l1_6 l1_7 l1_8) else (tidepoleref10_Equal.j0 k true a0_0 a0_1 a0_2 a0_3 a0_4 l0_5 l0_6 l0_7 l0_8 a1_0 a1_1 a1_2 a1_3 a1_4 l1_5 l1_6 l1_7 l1_8)) else (tidepoleref10_Equal.j0 k true a0_0 a0_1 a0_2 a0_3 a0_4 l0_5 l0_6 l0_7 l0_8 a1_0 a1_1 a1_2 a1_3 a1_4 l1_5 l1_6 l1_7 l1_8)) else (tidepoleref10_Equal.j0 k true a0_0 a0_1 a0_2 a0_3 a0_4 l0_5 l0_6 l0_7 l0_8 a1_0 a1_1 a1_2 a1_3 a1_4 l1_5 l1_6 l1_7 l1_8)) else (tidepoleref10_Equal.j0 k true a0_0 a0_1 a0_2 a0_3 a0_4 l0_5 l0_6 l0_7 l0_8 a1_0 a1_1 a1_2 a1_3 a1_4 l1_5 l1_6 l1_7 l1_8)) else (tidepoleref10_Equal.j0 k true a0_0 a0_1 a0_2 a0_3 a0_4 l0_5 l0_6 l0_7 l0_8 a1_0 a1_1 a1_2 a1_3 a1_4 l1_5 l1_6 l1_7 l1_8))) else (tidepoleref10_Equal.j0 k true a0_0 a0_1 a0_2 a0_3 a0_4 l0_5 l0_6 l0_7 l0_8 a1_0 a1_1 a1_2 a1_3 a1_4 l1_5 l1_6 l1_7 l1_8))
def tidepoleref10_Equal.T3 : Bool × List (List Nat × List Nat) := (true, [([], []), ([0], [0]), ([1], [1]), ([], []), ([3], [3]), ([], []), ([5], [5]), ([6, 2], [6]), ([], []), ([8], [8]), ([2, 4, 7, 9, 7], [2, 4, 7, 9]), ([10], [10])])
def tidepoleref10_Equal.B3 : List Nat := [0, 1, 3, 0, 8, 0, 32, 103, 0, 256, 1023, 2047]
theorem tidepoleref10_Equal.tab3 : rtab .any (opsOf Try.f104 3) = tidepoleref10_Equal.T3 := by kernel_rfl
theorem tidepoleref10_Equal.bits3 : waitsOk tidepoleref10_Equal.T3.2 tidepoleref10_Equal.B3 = true := by kernel_rfl
def tidepoleref10_Equal.T5 : Bool × List (List Nat × List Nat) := (true, [([], []), ([0], [0]), ([1], [1]), ([], []), ([3], [3]), ([], []), ([5], [5]), ([6, 2], [6]), ([], []), ([8], [8]), ([2, 4, 7, 9, 7], [2, 4, 7, 9]), ([10, 10, 0, 1, 2, 3, 4, 5, 6, 7, 8, 9, 10], [10])])
def tidepoleref10_Equal.B5 : List Nat := [0, 1, 3, 0, 8, 0, 32, 103, 0, 256, 1023, 2047]
theorem tidepoleref10_Equal.tab5 : rtab .any (opsOf Try.f104 5) = tidepoleref10_Equal.T5 := by kernel_rfl
theorem tidepoleref10_Equal.bits5 : waitsOk tidepoleref10_Equal.T5.2 tidepoleref10_Equal.B5 = true := by kernel_rfl
set_option maxHeartbeats 8000000 in
set_option maxRecDepth 100000 in
theorem tidepoleref10_Equal.calls (k : Nat) (a0_0 : Int) (a0_1 : Int) (a0_2 : Int) (a0_3 : Int) (a0_4 : Int) (A0_5 : Option Addr) (c0_5 : Nat) (l0_5 : List (S147)) (A0_6 : Option Addr) (c0_6 : Nat) (l0_6 : List (S147)) (A0_7 : Option Addr) (c0_7 : Nat) (l0_7 : List Int) (A0_8 : Option Addr) (c0_8 : Nat) (l0_8 : List Int) (a1_0 : Int) (a1_1 : Int) (a1_2 : Int) (a1_3 : Int) (a1_4 : Int) (A1_5 : Option Addr) (c1_5 : Nat) (l1_5 : List (S147)) (A1_6 : Option Addr) (c1_6 : Nat) (l1_6 : List (S147)) (A1_7 : Option Addr) (c1_7 : Nat) (l1_7 : List Int) (A1_8 : Option Addr) (c1_8 : Nat) (l1_8 : List Int) (r : Bool) (w : World) (hr0_5 : Kd.C k147 w A0_5 l0_5.length l0_5) (hc0_5 : l0_5.length ≤ c0_5) (hr0_6 : Kd.C k147 w A0_6 l0_6.length l0_6) (hc0_6 : l0_6.length ≤ c0_6) (hr0_7 : Kd.C (Kd.int .u64) w A0_7 l0_7.length l0_7) (hc0_7 : l0_7.length ≤ c0_7) (hr0_8 : Kd.C (Kd.int .u64) w A0_8 l0_8.length l0_8) (hc0_8 : l0_8.length ≤ c0_8) (hr1_5 : Kd.C k147 w A1_5 l1_5.length l1_5) (hc1_5 : l1_5.length ≤ c1_5) (hr1_6 : Kd.C k147 w A1_6 l1_6.length l1_6) (hc1_6 : l1_6.length ≤ c1_6) (hr1_7 : Kd.C (Kd.int .u64) w A1_7 l1_7.length l1_7) (hc1_7 : l1_7.length ≤ c1_7) (hr1_8 : Kd.C (Kd.int .u64) w A1_8 l1_8.length l1_8) (hc1_8 : l1_8.length ≤ c1_8) (h : tidepoleref10_Equal.f k a0_0 a0_1 a0_2 a0_3 a0_4 l0_5 l0_6 l0_7 l0_8 a1_0 a1_1 a1_2 a1_3 a1_4 l1_5 l1_6 l1_7 l1_8 = some r) :
  Calls Try.prog 104 #[.agg #[.int .i64 a0_0, .int .u64 a0_1, .int .u64 a0_2, .int .u64 a0_3, .int .u64 a0_4, .slice A0_5 l0_5.length c0_5, .slice A0_6 l0_6.length c0_6, .slice A0_7 l0_7.length c0_7, .slice A0_8 l0_8.length c0_8], .agg #[.int .i64 a1_0, .int .u64 a1_1, .int .u64 a1_2, .int .u64 a1_3, .int .u64 a1_4, .slice A1_5 l1_5.length c1_5, .slice A1_6 l1_6.length c1_6, .slice A1_7 l1_7.length c1_7, .slice A1_8 l1_8.length c1_8]] w fun e w' => e = .returned (.bool r) ∧ Below w.heap.size w w' := by
 have hu84 := Try.underlying84
 have HR0_5 := Aside0.mk hr0_5
 have HC0_5 := Aside0.mk hc0_5
 clear hr0_5 hc0_5
 have HR0_6 := Aside0.mk hr0_6
 have HC0_6 := Aside0.mk hc0_6
 clear hr0_6 hc0_6
 have HR0_7 := Aside0.mk hr0_7
 have HC0_7 := Aside0.mk hc0_7
 clear hr0_7 hc0_7
 have HR0_8 := Aside0.mk hr0_8
 have HC0_8 := Aside0.mk hc0_8
 clear hr0_8 hc0_8
 have HR1_5 := Aside0.mk hr1_5
 have HC1_5 := Aside0.mk hc1_5
 clear hr1_5 hc1_5
 have HR1_6 := Aside0.mk hr1_6
 have HC1_6 := Aside0.mk hc1_6
 clear hr1_6 hc1_6
 have HR1_7 := Aside0.mk hr1_7
 have HC1_7 := Aside0.mk hc1_7
 clear hr1_7 hc1_7
 have HR1_8 := Aside0.mk hr1_8
 have HC1_8 := Aside0.mk hc1_8
 clear hr1_8 hc1_8
 have HB := Aside0.mk (Below.refl w.heap.size w)
 have H : ((tidepoleref10_Check.f k a0_0 a0_1 a0_2 a0_3 a0_4 l0_5 l0_6 l0_7 l0_8).bind fun t103 => (if t103 = 0 then ((tidepoleref10_Check.f k a1_0 a1_1 a1_2 a1_3 a1_4 l1_5 l1_6 l1_7 l1_8).bind fun t104 => (if t104 = 0 then (if a0_0 = a1_0 then (if a0_1 = a1_1 then (if a0_2 = a1_2 then (if a0_3 = a1_3 then (tidepoleref10_Equal.j0 k (a0_4 != a1_4) a0_0 a0_1 a0_2 a0_3 a0_4 l0_5 l0_6 l0_7 l0_8 a1_0 a1_1 a1_2 a1_3 a1_4 l1_5 l1_6 l1_7 l1_8) else (tidepoleref10_Equal.j0 k true a0_0 a0_1 a0_2 a0_3 a0_4 l0_5 l0_6 l0_7 l0_8 a1_0 a1_1 a1_2 a1_3 a1_4 l1_5 l1_6 l1_7 l1_8)) else (tidepoleref10_Equal.j0 k true a0_0 a0_1 a0_2 a0_3 a0_4 l0_5 l0_6 l0_7 l0_8 a1_0 a1_1 a1_2 a1_3 a1_4 l1_5 l1_6 l1_7 l1_8)) else (tidepoleref10_Equal.j0 k true a0_0 a0_1 a0_2 a0_3 a0_4 l0_5 l0_6 l0_7 l0_8 a1_0 a1_1 a1_2 a1_3 a1_4 l1_5 l1_6 l1_7 l1_8)) else (tidepoleref10_Equal.j0 k true a0_0 a0_1 a0_2 a0_3 a0_4 l0_5 l0_6 l0_7 l0_8 a1_0 a1_1 a1_2 a1_3 a1_4 l1_5 l1_6 l1_7 l1_8)) else (tidepoleref10_Equal.j0 k true a0_0 a0_1 a0_2 a0_3 a0_4 l0_5 l0_6 l0_7 l0_8 a1_0 a1_1 a1_2 a1_3 a1_4 l1_5 l1_6 l1_7 l1_8))) else (tidepoleref10_Equal.j0 k true a0_0 a0_1 a0_2 a0_3 a0_4 l0_5 l0_6 l0_7 l0_8 a1_0 a1_1 a1_2 a1_3 a1_4 l1_5 l1_6 l1_7 l1_8))) = some r := h
 clear h
 have HC3 := Aside0.mk H
 clear H
 go_enter Try.func104, Try.ntmps104
 go_upto_region 1 with (first | ((with_reducible refine gate_dst (N := 2) rfl ?_); refine box_event ?hg (N := 2) ?hd (cs := #[.int .i64 a0_0, .int .u64 a0_1, .int .u64 a0_2, .int .u64 a0_3, .int .u64 a0_4, .slice A0_5 l0_5.length c0_5, .slice A0_6 l0_6.length c0_6, .slice A0_7 l0_7.length c0_7, .slice A0_8 l0_8.length c0_8]) (t := 84) ?hr ?_; (case hd => rfl); (case hg => rfl); (case hr => first | (go_simp; done) | (go_simp; rfl)); intro gb101 hg w4 hbox hb; have n0_ := Aside0.mk (below_step (by repeat (first | (with_reducible first | exact HB.out | apply below_alloc | apply pw_below_drewN | apply below_drew1) | exact HB.out)) hb); have n1_ := Aside0.mk (hbox); have n2_ := Aside0.mk ((by rw [hg]; exact (below_size (by repeat (first | (with_reducible first | exact HB.out | apply below_alloc | apply pw_below_drewN | apply below_drew1) | exact HB.out))) : w.heap.size ≤ gb101)); have n3_ := Aside0.mk ((by rw [hg]; exact (below_size (by repeat (first | (with_reducible first | exact HB.out | apply below_alloc | apply pw_below_drewN | apply below_drew1) | exact HB.out))) : w.heap.size ≤ gb101)); clear HB; have HB := n0_; have BK101 := n1_; have GW101 := n2_; have GE101 := n3_; clear n0_ n1_ n2_ n3_; clear hb hbox hg) | ((with_reducible refine gate_dst (N := 3) rfl ?_); refine box_event ?hg (N := 3) ?hd (cs := #[.int .i64 a1_0, .int .u64 a1_1, .int .u64 a1_2, .int .u64 a1_3, .int .u64 a1_4, .slice A1_5 l1_5.length c1_5, .slice A1_6 l1_6.length c1_6, .slice A1_7 l1_7.length c1_7, .slice A1_8 l1_8.length c1_8]) (t := 84) ?hr ?_; (case hd => rfl); (case hg => rfl); (case hr => first | (go_simp; done) | (go_simp; rfl)); intro gb102 hg w5 hbox hb; have n0_ := Aside0.mk (blk_below (g := gb101) (o := .cells #[.int .i64 a0_0, .int .u64 a0_1, .int .u64 a0_2, .int .u64 a0_3, .int .u64 a0_4, .slice A0_5 l0_5.length c0_5, .slice A0_6 l0_6.length c0_6, .slice A0_7 l0_7.length c0_7, .slice A0_8 l0_8.length c0_8] 84 (0, 0)) (by (with_reducible repeat (first | refine blk_drewN ?_ _ | refine blk_drew ?_ | refine blk_alloc ?_ _)); exact BK101.out) hb); have n1_ := Aside0.mk (below_step (by repeat (first | (with_reducible first | exact HB.out | apply below_alloc | apply pw_below_drewN | apply below_drew1 | refine below_set ?_ GE101.out) | exact HB.out)) hb); have n2_ := Aside0.mk (hbox); have n3_ := Aside0.mk ((by rw [hg]; exact (below_size (by repeat (first | (with_reducible first | exact HB.out | apply below_alloc | apply pw_below_drewN | apply below_drew1 | refine below_set ?_ GE101.out) | exact HB.out))) : w.heap.size ≤ gb102)); have n4_ := Aside0.mk ((by rw [hg]; exact (below_size (by repeat (first | (with_reducible first | exact HB.out | apply below_alloc | apply pw_below_drewN | apply below_drew1 | refine below_set ?_ GE101.out) | exact HB.out))) : w.heap.size ≤ gb102)); have n5_ := Aside0.mk ((by rw [hg]; exact Nat.ne_of_lt (blk_lt (g := gb101) (o := .cells #[.int .i64 a0_0, .int .u64 a0_1, .int .u64 a0_2, .int .u64 a0_3, .int .u64 a0_4, .slice A0_5 l0_5.length c0_5, .slice A0_6 l0_6.length c0_6, .slice A0_7 l0_7.length c0_7, .slice A0_8 l0_8.length c0_8] 84 (0, 0)) (by (with_reducible repeat (first | refine blk_drewN ?_ _ | refine blk_drew ?_ | refine blk_alloc ?_ _)); exact BK101.out)) : gb101 ≠ gb102)); have n6_ := Aside0.mk ((by rw [hg]; exact Nat.ne_of_gt (blk_lt (g := gb101) (o := .cells #[.int .i64 a0_0, .int .u64 a0_1, .int .u64 a0_2, .int .u64 a0_3, .int .u64 a0_4, .slice A0_5 l0_5.length c0_5, .slice A0_6 l0_6.length c0_6, .slice A0_7 l0_7.length c0_7, .slice A0_8 l0_8.length c0_8] 84 (0, 0)) (by (with_reducible repeat (first | refine blk_drewN ?_ _ | refine blk_drew ?_ | refine blk_alloc ?_ _)); exact BK101.out)) : gb102 ≠ gb101)); clear BK101; clear HB; have BK101 := n0_; have HB := n1_; have BK102 := n2_; have GW102 := n3_; have GE102 := n4_; have NB101_102 := n5_; have NB102_101 := n6_; clear n0_ n1_ n2_ n3_ n4_ n5_ n6_; clear hb hbox hg))
 (try simp only [Act.put, List.setIfInBounds_toArray, List.set_cons_zero, List.set_cons_succ])
 go_cut [47] (fun v47 wc => ∃ (kq : Nat) (x47_2 : Bool), v47 = .bool x47_2 ∧ Aside0 (tidepoleref10_Equal.j0 kq x47_2 a0_0 a0_1 a0_2 a0_3 a0_4 l0_5 l0_6 l0_7 l0_8 a1_0 a1_1 a1_2 a1_3 a1_4 l1_5 l1_6 l1_7 l1_8 = some r) ∧ Aside0 (kq ≤ k) ∧ Aside0 (wc.heap[gb101]? = some (.cells #[.int .i64 a0_0, .int .u64 a0_1, .int .u64 a0_2, .int .u64 a0_3, .int .u64 a0_4, (.slice A0_5 l0_5.length c0_5), (.slice A0_6 l0_6.length c0_6), (.slice A0_7 l0_7.length c0_7), (.slice A0_8 l0_8.length c0_8)] 84 (0, 0))) ∧ Aside0 (wc.heap[gb102]? = some (.cells #[.int .i64 a1_0, .int .u64 a1_1, .int .u64 a1_2, .int .u64 a1_3, .int .u64 a1_4, (.slice A1_5 l1_5.length c1_5), (.slice A1_6 l1_6.length c1_6), (.slice A1_7 l1_7.length c1_7), (.slice A1_8 l1_8.length c1_8)] 84 (0, 0))) ∧ Aside0 (Below w.heap.size w wc))
 case first =>
  have H := HC3.out
  clear HC3
  replace H := Option.bind_eq_some_iff.mp H
  obtain ⟨t103, A60, H⟩ := H
  replace H : (if t103 = 0 then ((tidepoleref10_Check.f k a1_0 a1_1 a1_2 a1_3 a1_4 l1_5 l1_6 l1_7 l1_8).bind fun t104 => (if t104 = 0 then (if a0_0 = a1_0 then (if a0_1 = a1_1 then (if a0_2 = a1_2 then (if a0_3 = a1_3 then (tidepoleref10_Equal.j0 k (a0_4 != a1_4) a0_0 a0_1 a0_2 a0_3 a0_4 l0_5 l0_6 l0_7 l0_8 a1_0 a1_1 a1_2 a1_3 a1_4 l1_5 l1_6 l1_7 l1_8) else (tidepoleref10_Equal.j0 k true a0_0 a0_1 a0_2 a0_3 a0_4 l0_5 l0_6 l0_7 l0_8 a1_0 a1_1 a1_2 a1_3 a1_4 l1_5 l1_6 l1_7 l1_8)) else (tidepoleref10_Equal.j0 k true a0_0 a0_1 a0_2 a0_3 a0_4 l0_5 l0_6 l0_7 l0_8 a1_0 a1_1 a1_2 a1_3 a1_4 l1_5 l1_6 l1_7 l1_8)) else (tidepoleref10_Equal.j0 k true a0_0 a0_1 a0_2 a0_3 a0_4 l0_5 l0_6 l0_7 l0_8 a1_0 a1_1 a1_2 a1_3 a1_4 l1_5 l1_6 l1_7 l1_8)) else (tidepoleref10_Equal.j0 k true a0_0 a0_1 a0_2 a0_3 a0_4 l0_5 l0_6 l0_7 l0_8 a1_0 a1_1 a1_2 a1_3 a1_4 l1_5 l1_6 l1_7 l1_8)) else (tidepoleref10_Equal.j0 k true a0_0 a0_1 a0_2 a0_3 a0_4 l0_5 l0_6 l0_7 l0_8 a1_0 a1_1 a1_2 a1_3 a1_4 l1_5 l1_6 l1_7 l1_8))) else (tidepoleref10_Equal.j0 k true a0_0 a0_1 a0_2 a0_3 a0_4 l0_5 l0_6 l0_7 l0_8 a1_0 a1_1 a1_2 a1_3 a1_4 l1_5 l1_6 l1_7 l1_8)) = some r := H
  have A6 := Aside0.mk A60
  clear A60
  by_cases c7 : t103 = 0
  ·rw [if_pos c7] at H
   have c7b0 : (t103 == 0) = true := beq_iff_eq.mpr c7
   have c7b1 : (t103 != 0) = false := bne_eq_false_iff_eq.mpr c7
   clear c7
   (first | rw [c7b0] | (simp only [i64_w, i32_w]; rw [c7b0]) | skip)
   replace H := Option.bind_eq_some_iff.mp H
   obtain ⟨t104, A80, H⟩ := H
   replace H : (if t104 = 0 then (if a0_0 = a1_0 then (if a0_1 = a1_1 then (if a0_2 = a1_2 then (if a0_3 = a1_3 then (tidepoleref10_Equal.j0 k (a0_4 != a1_4) a0_0 a0_1 a0_2 a0_3 a0_4 l0_5 l0_6 l0_7 l0_8 a1_0 a1_1 a1_2 a1_3 a1_4 l1_5 l1_6 l1_7 l1_8) else (tidepoleref10_Equal.j0 k true a0_0 a0_1 a0_2 a0_3 a0_4 l0_5 l0_6 l0_7 l0_8 a1_0 a1_1 a1_2 a1_3 a1_4 l1_5 l1_6 l1_7 l1_8)) else (tidepoleref10_Equal.j0 k true a0_0 a0_1 a0_2 a0_3 a0_4 l0_5 l0_6 l0_7 l0_8 a1_0 a1_1 a1_2 a1_3 a1_4 l1_5 l1_6 l1_7 l1_8)) else (tidepoleref10_Equal.j0 k true a0_0 a0_1 a0_2 a0_3 a0_4 l0_5 l0_6 l0_7 l0_8 a1_0 a1_1 a1_2 a1_3 a1_4 l1_5 l1_6 l1_7 l1_8)) else (tidepoleref10_Equal.j0 k true a0_0 a0_1 a0_2 a0_3 a0_4 l0_5 l0_6 l0_7 l0_8 a1_0 a1_1 a1_2 a1_3 a1_4 l1_5 l1_6 l1_7 l1_8)) else (tidepoleref10_Equal.j0 k true a0_0 a0_1 a0_2 a0_3 a0_4 l0_5 l0_6 l0_7 l0_8 a1_0 a1_1 a1_2 a1_3 a1_4 l1_5 l1_6 l1_7 l1_8)) = some r := H
   have A8 := Aside0.mk A80
   clear A80
   by_cases c9 : t104 = 0
   ·rw [if_pos c9] at H
    have c9b0 : (t104 == 0) = true := beq_iff_eq.mpr c9
    have c9b1 : (t104 != 0) = false := bne_eq_false_iff_eq.mpr c9
    clear c9
    by_cases c10 : a0_0 = a1_0
    ·rw [if_pos c10] at H
     have c10b0 : (a0_0 == a1_0) = true := beq_iff_eq.mpr c10
     have c10b1 : (a0_0 != a1_0) = false := bne_eq_false_iff_eq.mpr c10
     clear c10
     by_cases c11 : a0_1 = a1_1
     ·rw [if_pos c11] at H
      have c11b0 : (a0_1 == a1_1) = true := beq_iff_eq.mpr c11
      have c11b1 : (a0_1 != a1_1) = false := bne_eq_false_iff_eq.mpr c11
      clear c11
      by_cases c12 : a0_2 = a1_2
      ·rw [if_pos c12] at H
       have c12b0 : (a0_2 == a1_2) = true := beq_iff_eq.mpr c12
       have c12b1 : (a0_2 != a1_2) = false := bne_eq_false_iff_eq.mpr c12
       clear c12
       by_cases c13 : a0_3 = a1_3
       ·rw [if_pos c13] at H
        have c13b0 : (a0_3 == a1_3) = true := beq_iff_eq.mpr c13
        have c13b1 : (a0_3 != a1_3) = false := bne_eq_false_iff_eq.mpr c13
        clear c13
        have H' := Aside0.mk H
        clear H
        have hnb14 := NB101_102.out
        have hnc14 := NB102_101.out
        have hcz15_0 : w5.cell? ⟨gb101, 0, none⟩ = some (.int .i64 a0_0) := (blk_cell BK101.out 0).trans rfl
        have hcz15_1 : w5.cell? ⟨gb101, 1, none⟩ = some (.int .u64 a0_1) := (blk_cell BK101.out 1).trans rfl
        have hcz15_2 : w5.cell? ⟨gb101, 2, none⟩ = some (.int .u64 a0_2) := (blk_cell BK101.out 2).trans rfl
        have hcz15_3 : w5.cell? ⟨gb101, 3, none⟩ = some (.int .u64 a0_3) := (blk_cell BK101.out 3).trans rfl
        have hcz15_4 : w5.cell? ⟨gb101, 4, none⟩ = some (.int .u64 a0_4) := (blk_cell BK101.out 4).trans rfl
        have hcz15_5 : w5.cell? ⟨gb101, 5, none⟩ = some (.slice A0_5 l0_5.length c0_5) := (blk_cell BK101.out 5).trans rfl
        have hcz15_6 : w5.cell? ⟨gb101, 6, none⟩ = some (.slice A0_6 l0_6.length c0_6) := (blk_cell BK101.out 6).trans rfl
        have hcz15_7 : w5.cell? ⟨gb101, 7, none⟩ = some (.slice A0_7 l0_7.length c0_7) := (blk_cell BK101.out 7).trans rfl
        have hcz15_8 : w5.cell? ⟨gb101, 8, none⟩ = some (.slice A0_8 l0_8.length c0_8) := (blk_cell BK101.out 8).trans rfl
        have hfz15_0 := blk_frozen BK101.out 0
        have hfz15_1 := blk_frozen BK101.out 1
        have hfz15_2 := blk_frozen BK101.out 2
        have hfz15_3 := blk_frozen BK101.out 3
        have hfz15_4 := blk_frozen BK101.out 4
        have hfz15_5 := blk_frozen BK101.out 5
        have hfz15_6 := blk_frozen BK101.out 6
        have hfz15_7 := blk_frozen BK101.out 7
        have hfz15_8 := blk_frozen BK101.out 8
        go_wp2_with (first | ((with_reducible refine gate_callee (f := 63) rfl ?_); refine goesL_ (some 6) rfl rfl Try.func63 (by kernel_rfl) rfl #[.agg #[.int .i64 a0_0, .int .u64 a0_1, .int .u64 a0_2, .int .u64 a0_3, .int .u64 a0_4, .slice A0_5 l0_5.length c0_5, .slice A0_6 l0_6.length c0_6, .slice A0_7 l0_7.length c0_7, .slice A0_8 l0_8.length c0_8]] rfl (by (try simp only [List.map_toArray, List.map_cons, List.map_nil]); first | done | rfl | (simp only [List.length_drop, List.length_take]; rfl)) ?_; (with_reducible refine (tidepoleref10_Check.calls k a0_0 a0_1 a0_2 a0_3 a0_4 _ _ l0_5 _ _ l0_6 _ _ l0_7 _ _ l0_8 t103 _ ?side1 ?side2 ?side3 ?side4 ?side5 ?side6 ?side7 ?side8 A6.out).mono ?_); (case side1 => repeat (first | exact (Kd.C_below HR0_5.out HB.out) | (with_reducible refine Kd.C_alloc ?_ _) | (with_reducible refine Kd.C_drewN ?_ _) | (with_reducible refine Kd.C_drew ?_))); (case side2 => exact HC0_5.out); (case side3 => repeat (first | exact (Kd.C_below HR0_6.out HB.out) | (with_reducible refine Kd.C_alloc ?_ _) | (with_reducible refine Kd.C_drewN ?_ _) | (with_reducible refine Kd.C_drew ?_))); (case side4 => exact HC0_6.out); (case side5 => repeat (first | exact (Kd.C_below HR0_7.out HB.out) | (with_reducible refine Kd.C_alloc ?_ _) | (with_reducible refine Kd.C_drewN ?_ _) | (with_reducible refine Kd.C_drew ?_))); (case side6 => exact HC0_7.out); (case side7 => repeat (first | exact (Kd.C_below HR0_8.out HB.out) | (with_reducible refine Kd.C_alloc ?_ _) | (with_reducible refine Kd.C_drewN ?_ _) | (with_reducible refine Kd.C_drew ?_))); (case side8 => exact HC0_8.out); rintro e w16 ⟨rfl, hb⟩; refine ⟨_, rfl, ?_⟩; have n0_ := Aside0.mk (blk_below (g := gb101) (o := .cells #[.int .i64 a0_0, .int .u64 a0_1, .int .u64 a0_2, .int .u64 a0_3, .int .u64 a0_4, .slice A0_5 l0_5.length c0_5, .slice A0_6 l0_6.length c0_6, .slice A0_7 l0_7.length c0_7, .slice A0_8 l0_8.length c0_8] 84 (0, 0)) (by (with_reducible repeat (first | refine blk_drewN ?_ _ | refine blk_drew ?_ | refine blk_alloc ?_ _)); exact BK101.out) hb); have n1_ := Aside0.mk (blk_below (g := gb102) (o := .cells #[.int .i64 a1_0, .int .u64 a1_1, .int .u64 a1_2, .int .u64 a1_3, .int .u64 a1_4, .slice A1_5 l1_5.length c1_5, .slice A1_6 l1_6.length c1_6, .slice A1_7 l1_7.length c1_7, .slice A1_8 l1_8.length c1_8] 84 (0, 0)) (by (with_reducible repeat (first | refine blk_drewN ?_ _ | refine blk_drew ?_ | refine blk_alloc ?_ _)); exact BK102.out) hb); have n2_ := Aside0.mk (below_step (by repeat (first | (with_reducible first | exact HB.out | apply below_alloc | apply pw_below_drewN | apply below_drew1 | refine below_set ?_ GE101.out | refine below_set ?_ GE102.out) | exact HB.out)) hb); clear BK101; clear BK102; clear HB; have BK101 := n0_; have BK102 := n1_; have HB := n2_; clear n0_ n1_ n2_; (try clear hb); (try clear hb2); (try clear hk); (try clear hi); clear A6; have hcz17_0 : w16.cell? ⟨gb102, 0, none⟩ = some (.int .i64 a1_0) := (blk_cell BK102.out 0).trans rfl; have hcz17_1 : w16.cell? ⟨gb102, 1, none⟩ = some (.int .u64 a1_1) := (blk_cell BK102.out 1).trans rfl; have hcz17_2 : w16.cell? ⟨gb102, 2, none⟩ = some (.int .u64 a1_2) := (blk_cell BK102.out 2).trans rfl; have hcz17_3 : w16.cell? ⟨gb102, 3, none⟩ = some (.int .u64 a1_3) := (blk_cell BK102.out 3).trans rfl; have hcz17_4 : w16.cell? ⟨gb102, 4, none⟩ = some (.int .u64 a1_4) := (blk_cell BK102.out 4).trans rfl; have hcz17_5 : w16.cell? ⟨gb102, 5, none⟩ = some (.slice A1_5 l1_5.length c1_5) := (blk_cell BK102.out 5).trans rfl; have hcz17_6 : w16.cell? ⟨gb102, 6, none⟩ = some (.slice A1_6 l1_6.length c1_6) := (blk_cell BK102.out 6).trans rfl; have hcz17_7 : w16.cell? ⟨gb102, 7, none⟩ = some (.slice A1_7 l1_7.length c1_7) := (blk_cell BK102.out 7).trans rfl; have hcz17_8 : w16.cell? ⟨gb102, 8, none⟩ = some (.slice A1_8 l1_8.length c1_8) := (blk_cell BK102.out 8).trans rfl; have hfz17_0 := blk_frozen BK102.out 0; have hfz17_1 := blk_frozen BK102.out 1; have hfz17_2 := blk_frozen BK102.out 2; have hfz17_3 := blk_frozen BK102.out 3; have hfz17_4 := blk_frozen BK102.out 4; have hfz17_5 := blk_frozen BK102.out 5; have hfz17_6 := blk_frozen BK102.out 6; have hfz17_7 := blk_frozen BK102.out 7; have hfz17_8 := blk_frozen BK102.out 8) | (go_at_call 63; (with_reducible refine (tidepoleref10_Check.calls k a1_0 a1_1 a1_2 a1_3 a1_4 _ _ l1_5 _ _ l1_6 _ _ l1_7 _ _ l1_8 t104 _ ?side1 ?side2 ?side3 ?side4 ?side5 ?side6 ?side7 ?side8 A8.out).mono ?_); (case side1 => repeat (first | exact (Kd.C_below HR1_5.out HB.out) | (with_reducible refine Kd.C_alloc ?_ _) | (with_reducible refine Kd.C_drewN ?_ _) | (with_reducible refine Kd.C_drew ?_))); (case side2 => exact HC1_5.out); (case side3 => repeat (first | exact (Kd.C_below HR1_6.out HB.out) | (with_reducible refine Kd.C_alloc ?_ _) | (with_reducible refine Kd.C_drewN ?_ _) | (with_reducible refine Kd.C_drew ?_))); (case side4 => exact HC1_6.out); (case side5 => repeat (first | exact (Kd.C_below HR1_7.out HB.out) | (with_reducible refine Kd.C_alloc ?_ _) | (with_reducible refine Kd.C_drewN ?_ _) | (with_reducible refine Kd.C_drew ?_))); (case side6 => exact HC1_7.out); (case side7 => repeat (first | exact (Kd.C_below HR1_8.out HB.out) | (with_reducible refine Kd.C_alloc ?_ _) | (with_reducible refine Kd.C_drewN ?_ _) | (with_reducible refine Kd.C_drew ?_))); (case side8 => exact HC1_8.out); rintro e w18 ⟨rfl, hb⟩; have n0_ := Aside0.mk (blk_below (g := gb101) (o := .cells #[.int .i64 a0_0, .int .u64 a0_1, .int .u64 a0_2, .int .u64 a0_3, .int .u64 a0_4, .slice A0_5 l0_5.length c0_5, .slice A0_6 l0_6.length c0_6, .slice A0_7 l0_7.length c0_7, .slice A0_8 l0_8.length c0_8] 84 (0, 0)) (by (with_reducible repeat (first | refine blk_drewN ?_ _ | refine blk_drew ?_ | refine blk_alloc ?_ _)); exact BK101.out) hb); have n1_ := Aside0.mk (blk_below (g := gb102) (o := .cells #[.int .i64 a1_0, .int .u64 a1_1, .int .u64 a1_2, .int .u64 a1_3, .int .u64 a1_4, .slice A1_5 l1_5.length c1_5, .slice A1_6 l1_6.length c1_6, .slice A1_7 l1_7.length c1_7, .slice A1_8 l1_8.length c1_8] 84 (0, 0)) (by (with_reducible repeat (first | refine blk_drewN ?_ _ | refine blk_drew ?_ | refine blk_alloc ?_ _)); exact BK102.out) hb); have n2_ := Aside0.mk (below_step (by repeat (first | (with_reducible first | exact HB.out | apply below_alloc | apply pw_below_drewN | apply below_drew1 | refine below_set ?_ GE101.out | refine below_set ?_ GE102.out) | exact HB.out)) hb); clear BK101; clear BK102; clear HB; have BK101 := n0_; have BK102 := n1_; have HB := n2_; clear n0_ n1_ n2_; (try clear hb); (try clear hb2); (try clear hk); (try clear hi); clear A8; have hcz19_0 : w18.cell? ⟨gb101, 0, none⟩ = some (.int .i64 a0_0) := (blk_cell BK101.out 0).trans rfl; have hcz19_1 : w18.cell? ⟨gb101, 1, none⟩ = some (.int .u64 a0_1) := (blk_cell BK101.out 1).trans rfl; have hcz19_2 : w18.cell? ⟨gb101, 2, none⟩ = some (.int .u64 a0_2) := (blk_cell BK101.out 2).trans rfl; have hcz19_3 : w18.cell? ⟨gb101, 3, none⟩ = some (.int .u64 a0_3) := (blk_cell BK101.out 3).trans rfl; have hcz19_4 : w18.cell? ⟨gb101, 4, none⟩ = some (.int .u64 a0_4) := (blk_cell BK101.out 4).trans rfl; have hcz19_5 : w18.cell? ⟨gb101, 5, none⟩ = some (.slice A0_5 l0_5.length c0_5) := (blk_cell BK101.out 5).trans rfl; have hcz19_6 : w18.cell? ⟨gb101, 6, none⟩ = some (.slice A0_6 l0_6.length c0_6) := (blk_cell BK101.out 6).trans rfl; have hcz19_7 : w18.cell? ⟨gb101, 7, none⟩ = some (.slice A0_7 l0_7.length c0_7) := (blk_cell BK101.out 7).trans rfl; have hcz19_8 : w18.cell? ⟨gb101, 8, none⟩ = some (.slice A0_8 l0_8.length c0_8) := (blk_cell BK101.out 8).trans rfl; have hfz19_0 := blk_frozen BK101.out 0; have hfz19_1 := blk_frozen BK101.out 1; have hfz19_2 := blk_frozen BK101.out 2; have hfz19_3 := blk_frozen BK101.out 3; have hfz19_4 := blk_frozen BK101.out 4; have hfz19_5 := blk_frozen BK101.out 5; have hfz19_6 := blk_frozen BK101.out 6; have hfz19_7 := blk_frozen BK101.out 7; have hfz19_8 := blk_frozen BK101.out 8; have hcz20_0 : w18.cell? ⟨gb102, 0, none⟩ = some (.int .i64 a1_0) := (blk_cell BK102.out 0).trans rfl; have hcz20_1 : w18.cell? ⟨gb102, 1, none⟩ = some (.int .u64 a1_1) := (blk_cell BK102.out 1).trans rfl; have hcz20_2 : w18.cell? ⟨gb102, 2, none⟩ = some (.int .u64 a1_2) := (blk_cell BK102.out 2).trans rfl; have hcz20_3 : w18.cell? ⟨gb102, 3, none⟩ = some (.int .u64 a1_3) := (blk_cell BK102.out 3).trans rfl; have hcz20_4 : w18.cell? ⟨gb102, 4, none⟩ = some (.int .u64 a1_4) := (blk_cell BK102.out 4).trans rfl; have hcz20_5 : w18.cell? ⟨gb102, 5, none⟩ = some (.slice A1_5 l1_5.length c1_5) := (blk_cell BK102.out 5).trans rfl; have hcz20_6 : w18.cell? ⟨gb102, 6, none⟩ = some (.slice A1_6 l1_6.length c1_6) := (blk_cell BK102.out 6).trans rfl; have hcz20_7 : w18.cell? ⟨gb102, 7, none⟩ = some (.slice A1_7 l1_7.length c1_7) := (blk_cell BK102.out 7).trans rfl; have hcz20_8 : w18.cell? ⟨gb102, 8, none⟩ = some (.slice A1_8 l1_8.length c1_8) := (blk_cell BK102.out 8).trans rfl; have hfz20_0 := blk_frozen BK102.out 0; have hfz20_1 := blk_frozen BK102.out 1; have hfz20_2 := blk_frozen BK102.out 2; have hfz20_3 := blk_frozen BK102.out 3; have hfz20_4 := blk_frozen BK102.out 4; have hfz20_5 := blk_frozen BK102.out 5; have hfz20_6 := blk_frozen BK102.out 6; have hfz20_7 := blk_frozen BK102.out 7; have hfz20_8 := blk_frozen BK102.out 8))
        go_meet
        case rel => exact ⟨_, ((a0_4 != a1_4)), (by first | rfl | (simp; done) | (simp [*]; done)), H', ⟨by first | omega | exact Nat.le_refl _⟩, ⟨by (with_reducible repeat (first | refine blk_drewN ?_ _ | refine blk_drew ?_ | refine blk_alloc ?_ _)); exact BK101.out⟩, ⟨by (with_reducible repeat (first | refine blk_drewN ?_ _ | refine blk_drew ?_ | refine blk_alloc ?_ _)); exact BK102.out⟩, ⟨by repeat (first | (with_reducible first | exact HB.out | apply below_alloc | apply pw_below_drewN | apply below_drew1 | refine below_set ?_ GE101.out | refine below_set ?_ GE102.out) | exact HB.out)⟩⟩
       ·rw [if_neg c13] at H
        have c13b0 : (a0_3 == a1_3) = false := beq_eq_false_iff_ne.mpr c13
        have c13b1 : (a0_3 != a1_3) = true := bne_iff_ne.mpr c13
        have H' := Aside0.mk H
        clear H
        have hnb21 := NB101_102.out
        have hnc21 := NB102_101.out
        have hcz22_0 : w5.cell? ⟨gb101, 0, none⟩ = some (.int .i64 a0_0) := (blk_cell BK101.out 0).trans rfl
        have hcz22_1 : w5.cell? ⟨gb101, 1, none⟩ = some (.int .u64 a0_1) := (blk_cell BK101.out 1).trans rfl
        have hcz22_2 : w5.cell? ⟨gb101, 2, none⟩ = some (.int .u64 a0_2) := (blk_cell BK101.out 2).trans rfl
        have hcz22_3 : w5.cell? ⟨gb101, 3, none⟩ = some (.int .u64 a0_3) := (blk_cell BK101.out 3).trans rfl
        have hcz22_4 : w5.cell? ⟨gb101, 4, none⟩ = some (.int .u64 a0_4) := (blk_cell BK101.out 4).trans rfl
        have hcz22_5 : w5.cell? ⟨gb101, 5, none⟩ = some (.slice A0_5 l0_5.length c0_5) := (blk_cell BK101.out 5).trans rfl
        have hcz22_6 : w5.cell? ⟨gb101, 6, none⟩ = some (.slice A0_6 l0_6.length c0_6) := (blk_cell BK101.out 6).trans rfl
        have hcz22_7 : w5.cell? ⟨gb101, 7, none⟩ = some (.slice A0_7 l0_7.length c0_7) := (blk_cell BK101.out 7).trans rfl
        have hcz22_8 : w5.cell? ⟨gb101, 8, none⟩ = some (.slice A0_8 l0_8.length c0_8) := (blk_cell BK101.out 8).trans rfl
        have hfz22_0 := blk_frozen BK101.out 0
        have hfz22_1 := blk_frozen BK101.out 1
        have hfz22_2 := blk_frozen BK101.out 2
        have hfz22_3 := blk_frozen BK101.out 3
        have hfz22_4 := blk_frozen BK101.out 4
        have hfz22_5 := blk_frozen BK101.out 5
        have hfz22_6 := blk_frozen BK101.out 6
        have hfz22_7 := blk_frozen BK101.out 7
        have hfz22_8 := blk_frozen BK101.out 8
        go_wp2_with (first | ((with_reducible refine gate_callee (f := 63) rfl ?_); refine goesL_ (some 6) rfl rfl Try.func63 (by kernel_rfl) rfl #[.agg #[.int .i64 a0_0, .int .u64 a0_1, .int .u64 a0_2, .int .u64 a0_3, .int .u64 a0_4, .slice A0_5 l0_5.length c0_5, .slice A0_6 l0_6.length c0_6, .slice A0_7 l0_7.length c0_7, .slice A0_8 l0_8.length c0_8]] rfl (by (try simp only [List.map_toArray, List.map_cons, List.map_nil]); first | done | rfl | (simp only [List.length_drop, List.length_take]; rfl)) ?_; (with_reducible refine (tidepoleref10_Check.calls k a0_0 a0_1 a0_2 a0_3 a0_4 _ _ l0_5 _ _ l0_6 _ _ l0_7 _ _ l0_8 t103 _ ?side1 ?side2 ?side3 ?side4 ?side5 ?side6 ?side7 ?side8 A6.out).mono ?_); (case side1 => repeat (first | exact (Kd.C_below HR0_5.out HB.out) | (with_reducible refine Kd.C_alloc ?_ _) | (with_reducible refine Kd.C_drewN ?_ _) | (with_reducible refine Kd.C_drew ?_))); (case side2 => exact HC0_5.out); (case side3 => repeat (first | exact (Kd.C_below HR0_6.out HB.out) | (with_reducible refine Kd.C_alloc ?_ _) | (with_reducible refine Kd.C_drewN ?_ _) | (with_reducible refine Kd.C_drew ?_))); (case side4 => exact HC0_6.out); (case side5 => repeat (first | exact (Kd.C_below HR0_7.out HB.out) | (with_reducible refine Kd.C_alloc ?_ _) | (with_reducible refine Kd.C_drewN ?_ _) | (with_reducible refine Kd.C_drew ?_))); (case side6 => exact HC0_7.out); (case side7 => repeat (first | exact (Kd.C_below HR0_8.out HB.out) | (with_reducible refine Kd.C_alloc ?_ _) | (with_reducible refine Kd.C_drewN ?_ _) | (with_reducible refine Kd.C_drew ?_))); (case side8 => exact HC0_8.out); rintro e w23 ⟨rfl, hb⟩; refine ⟨_, rfl, ?_⟩; have n0_ := Aside0.mk (blk_below (g := gb101) (o := .cells #[.int .i64 a0_0, .int .u64 a0_1, .int .u64 a0_2, .int .u64 a0_3, .int .u64 a0_4, .slice A0_5 l0_5.length c0_5, .slice A0_6 l0_6.length c0_6, .slice A0_7 l0_7.length c0_7, .slice A0_8 l0_8.length c0_8] 84 (0, 0)) (by (with_reducible repeat (first | refine blk_drewN ?_ _ | refine blk_drew ?_ | refine blk_alloc ?_ _)); exact BK101.out) hb); have n1_ := Aside0.mk (blk_below (g := gb102) (o := .cells #[.int .i64 a1_0, .int .u64 a1_1, .int .u64 a1_2, .int .u64 a1_3, .int .u64 a1_4, .slice A1_5 l1_5.length c1_5, .slice A1_6 l1_6.length c1_6, .slice A1_7 l1_7.length c1_7, .slice A1_8 l1_8.length c1_8] 84 (0, 0)) (by (with_reducible repeat (first | refine blk_drewN ?_ _ | refine blk_drew ?_ | refine blk_alloc ?_ _)); exact BK102.out) hb); have n2_ := Aside0.mk (below_step (by repeat (first | (with_reducible first | exact HB.out | apply below_alloc | apply pw_below_drewN | apply below_drew1 | refine below_set ?_ GE101.out | refine below_set ?_ GE102.out) | exact HB.out)) hb); clear BK101; clear BK102; clear HB; have BK101 := n0_; have BK102 := n1_; have HB := n2_; clear n0_ n1_ n2_; (try clear hb); (try clear hb2); (try clear hk); (try clear hi); clear A6; have hcz24_0 : w23.cell? ⟨gb102, 0, none⟩ = some (.int .i64 a1_0) := (blk_cell BK102.out 0).trans rfl; have hcz24_1 : w23.cell? ⟨gb102, 1, none⟩ = some (.int .u64 a1_1) := (blk_cell BK102.out 1).trans rfl; have hcz24_2 : w23.cell? ⟨gb102, 2, none⟩ = some (.int .u64 a1_2) := (blk_cell BK102.out 2).trans rfl; have hcz24_3 : w23.cell? ⟨gb102, 3, none⟩ = some (.int .u64 a1_3) := (blk_cell BK102.out 3).trans rfl; have hcz24_4 : w23.cell? ⟨gb102, 4, none⟩ = some (.int .u64 a1_4) := (blk_cell BK102.out 4).trans rfl; have hcz24_5 : w23.cell? ⟨gb102, 5, none⟩ = some (.slice A1_5 l1_5.length c1_5) := (blk_cell BK102.out 5).trans rfl; have hcz24_6 : w23.cell? ⟨gb102, 6, none⟩ = some (.slice A1_6 l1_6.length c1_6) := (blk_cell BK102.out 6).trans rfl; have hcz24_7 : w23.cell? ⟨gb102, 7, none⟩ = some (.slice A1_7 l1_7.length c1_7) := (blk_cell BK102.out 7).trans rfl; have hcz24_8 : w23.cell? ⟨gb102, 8, none⟩ = some (.slice A1_8 l1_8.length c1_8) := (blk_cell BK102.out 8).trans rfl; have hfz24_0 := blk_frozen BK102.out 0; have hfz24_1 := blk_frozen BK102.out 1; have hfz24_2 := blk_frozen BK102.out 2; have hfz24_3 := blk_frozen BK102.out 3; have hfz24_4 := blk_frozen BK102.out 4; have hfz24_5 := blk_frozen BK102.out 5; have hfz24_6 := blk_frozen BK102.out 6; have hfz24_7 := blk_frozen BK102.out 7; have hfz24_8 := blk_frozen BK102.out 8) | (go_at_call 63; (with_reducible refine (tidepoleref10_Check.calls k a1_0 a1_1 a1_2 a1_3 a1_4 _ _ l1_5 _ _ l1_6 _ _ l1_7 _ _ l1_8 t104 _ ?side1 ?side2 ?side3 ?side4 ?side5 ?side6 ?side7 ?side8 A8.out).mono ?_); (case side1 => repeat (first | exact (Kd.C_below HR1_5.out HB.out) | (with_reducible refine Kd.C_alloc ?_ _) | (with_reducible refine Kd.C_drewN ?_ _) | (with_reducible refine Kd.C_drew ?_))); (case side2 => exact HC1_5.out); (case side3 => repeat (first | exact (Kd.C_below HR1_6.out HB.out) | (with_reducible refine Kd.C_alloc ?_ _) | (with_reducible refine Kd.C_drewN ?_ _) | (with_reducible refine Kd.C_drew ?_))); (case side4 => exact HC1_6.out); (case side5 => repeat (first | exact (Kd.C_below HR1_7.out HB.out) | (with_reducible refine Kd.C_alloc ?_ _) | (with_reducible refine Kd.C_drewN ?_ _) | (with_reducible refine Kd.C_drew ?_))); (case side6 => exact HC1_7.out); (case side7 => repeat (first | exact (Kd.C_below HR1_8.out HB.out) | (with_reducible refine Kd.C_alloc ?_ _) | (with_reducible refine Kd.C_drewN ?_ _) | (with_reducible refine Kd.C_drew ?_))); (case side8 => exact HC1_8.out); rintro e w25 ⟨rfl, hb⟩; have n0_ := Aside0.mk (blk_below (g := gb101) (o := .cells #[.int .i64 a0_0, .int .u64 a0_1, .int .u64 a0_2, .int .u64 a0_3, .int .u64 a0_4, .slice A0_5 l0_5.length c0_5, .slice A0_6 l0_6.length c0_6, .slice A0_7 l0_7.length c0_7, .slice A0_8 l0_8.length c0_8] 84 (0, 0)) (by (with_reducible repeat (first | refine blk_drewN ?_ _ | refine blk_drew ?_ | refine blk_alloc ?_ _)); exact BK101.out) hb); have n1_ := Aside0.mk (blk_below (g := gb102) (o := .cells #[.int .i64 a1_0, .int .u64 a1_1, .int .u64 a1_2, .int .u64 a1_3, .int .u64 a1_4, .slice A1_5 l1_5.length c1_5, .slice A1_6 l1_6.length c1_6, .slice A1_7 l1_7.length c1_7, .slice A1_8 l1_8.length c1_8] 84 (0, 0)) (by (with_reducible repeat (first | refine blk_drewN ?_ _ | refine blk_drew ?_ | refine blk_alloc ?_ _)); exact BK102.out) hb); have n2_ := Aside0.mk (below_step (by repeat (first | (with_reducible first | exact HB.out | apply below_alloc | apply pw_below_drewN | apply below_drew1 | refine below_set ?_ GE101.out | refine below_set ?_ GE102.out) | exact HB.out)) hb); clear BK101; clear BK102; clear HB; have BK101 := n0_; have BK102 := n1_; have HB := n2_; clear n0_ n1_ n2_; (try clear hb); (try clear hb2); (try clear hk); (try clear hi); clear A8; have hcz26_0 : w25.cell? ⟨gb101, 0, none⟩ = some (.int .i64 a0_0) := (blk_cell BK101.out 0).trans rfl; have hcz26_1 : w25.cell? ⟨gb101, 1, none⟩ = some (.int .u64 a0_1) := (blk_cell BK101.out 1).trans rfl; have hcz26_2 : w25.cell? ⟨gb101, 2, none⟩ = some (.int .u64 a0_2) := (blk_cell BK101.out 2).trans rfl; have hcz26_3 : w25.cell? ⟨gb101, 3, none⟩ = some (.int .u64 a0_3) := (blk_cell BK101.out 3).trans rfl; have hcz26_4 : w25.cell? ⟨gb101, 4, none⟩ = some (.int .u64 a0_4) := (blk_cell BK101.out 4).trans rfl; have hcz26_5 : w25.cell? ⟨gb101, 5, none⟩ = some (.slice A0_5 l0_5.length c0_5) := (blk_cell BK101.out 5).trans rfl; have hcz26_6 : w25.cell? ⟨gb101, 6, none⟩ = some (.slice A0_6 l0_6.length c0_6) := (blk_cell BK101.out 6).trans rfl; have hcz26_7 : w25.cell? ⟨gb101, 7, none⟩ = some (.slice A0_7 l0_7.length c0_7) := (blk_cell BK101.out 7).trans rfl; have hcz26_8 : w25.cell? ⟨gb101, 8, none⟩ = some (.slice A0_8 l0_8.length c0_8) := (blk_cell BK101.out 8).trans rfl; have hfz26_0 := blk_frozen BK101.out 0; have hfz26_1 := blk_frozen BK101.out 1; have hfz26_2 := blk_frozen BK101.out 2; have hfz26_3 := blk_frozen BK101.out 3; have hfz26_4 := blk_frozen BK101.out 4; have hfz26_5 := blk_frozen BK101.out 5; have hfz26_6 := blk_frozen BK101.out 6; have hfz26_7 := blk_frozen BK101.out 7; have hfz26_8 := blk_frozen BK101.out 8; have hcz27_0 : w25.cell? ⟨gb102, 0, none⟩ = some (.int .i64 a1_0) := (blk_cell BK102.out 0).trans rfl; have hcz27_1 : w25.cell? ⟨gb102, 1, none⟩ = some (.int .u64 a1_1) := (blk_cell BK102.out 1).trans rfl; have hcz27_2 : w25.cell? ⟨gb102, 2, none⟩ = some (.int .u64 a1_2) := (blk_cell BK102.out 2).trans rfl; have hcz27_3 : w25.cell? ⟨gb102, 3, none⟩ = some (.int .u64 a1_3) := (blk_cell BK102.out 3).trans rfl; have hcz27_4 : w25.cell? ⟨gb102, 4, none⟩ = some (.int .u64 a1_4) := (blk_cell BK102.out 4).trans rfl; have hcz27_5 : w25.cell? ⟨gb102, 5, none⟩ = some (.slice A1_5 l1_5.length c1_5) := (blk_cell BK102.out 5).trans rfl; have hcz27_6 : w25.cell? ⟨gb102, 6, none⟩ = some (.slice A1_6 l1_6.length c1_6) := (blk_cell BK102.out 6).trans rfl; have hcz27_7 : w25.cell? ⟨gb102, 7, none⟩ = some (.slice A1_7 l1_7.length c1_7) := (blk_cell BK102.out 7).trans rfl; have hcz27_8 : w25.cell? ⟨gb102, 8, none⟩ = some (.slice A1_8 l1_8.length c1_8) := (blk_cell BK102.out 8).trans rfl; have hfz27_0 := blk_frozen BK102.out 0; have hfz27_1 := blk_frozen BK102.out 1; have hfz27_2 := blk_frozen BK102.out 2; have hfz27_3 := blk_frozen BK102.out 3; have hfz27_4 := blk_frozen BK102.out 4; have hfz27_5 := blk_frozen BK102.out 5; have hfz27_6 := blk_frozen BK102.out 6; have hfz27_7 := blk_frozen BK102.out 7; have hfz27_8 := blk_frozen BK102.out 8))
        go_meet
        case rel => exact ⟨_, (true), (by first | rfl | (simp; done) | (simp [*]; done)), H', ⟨by first | omega | exact Nat.le_refl _⟩, ⟨by (with_reducible repeat (first | refine blk_drewN ?_ _ | refine blk_drew ?_ | refine blk_alloc ?_ _)); exact BK101.out⟩, ⟨by (with_reducible repeat (first | refine blk_drewN ?_ _ | refine blk_drew ?_ | refine blk_alloc ?_ _)); exact BK102.out⟩, ⟨by repeat (first | (with_reducible first | exact HB.out | apply below_alloc | apply pw_below_drewN | apply below_drew1 | refine below_set ?_ GE101.out | refine below_set ?_ GE102.out) | exact HB.out)⟩⟩
      ·rw [if_neg c12] at H
       have c12b0 : (a0_2 == a1_2) = false := beq_eq_false_iff_ne.mpr c12
       have c12b1 : (a0_2 != a1_2) = true := bne_iff_ne.mpr c12
       have H' := Aside0.mk H
       clear H
       have hnb28 := NB101_102.out
       have hnc28 := NB102_101.out
       have hcz29_0 : w5.cell? ⟨gb101, 0, none⟩ = some (.int .i64 a0_0) := (blk_cell BK101.out 0).trans rfl
       have hcz29_1 : w5.cell? ⟨gb101, 1, none⟩ = some (.int .u64 a0_1) := (blk_cell BK101.out 1).trans rfl
       have hcz29_2 : w5.cell? ⟨gb101, 2, none⟩ = some (.int .u64 a0_2) := (blk_cell BK101.out 2).trans rfl
       have hcz29_3 : w5.cell? ⟨gb101, 3, none⟩ = some (.int .u64 a0_3) := (blk_cell BK101.out 3).trans rfl
       have hcz29_4 : w5.cell? ⟨gb101, 4, none⟩ = some (.int .u64 a0_4) := (blk_cell BK101.out 4).trans rfl
       have hcz29_5 : w5.cell? ⟨gb101, 5, none⟩ = some (.slice A0_5 l0_5.length c0_5) := (blk_cell BK101.out 5).trans rfl
       have hcz29_6 : w5.cell? ⟨gb101, 6, none⟩ = some (.slice A0_6 l0_6.length c0_6) := (blk_cell BK101.out 6).trans rfl
       have hcz29_7 : w5.cell? ⟨gb101, 7, none⟩ = some (.slice A0_7 l0_7.length c0_7) := (blk_cell BK101.out 7).trans rfl
       have hcz29_8 : w5.cell? ⟨gb101, 8, none⟩ = some (.slice A0_8 l0_8.length c0_8) := (blk_cell BK101.out 8).trans rfl
       have hfz29_0 := blk_frozen BK101.out 0
       have hfz29_1 := blk_frozen BK101.out 1
       have hfz29_2 := blk_frozen BK101.out 2
       have hfz29_3 := blk_frozen BK101.out 3
       have hfz29_4 := blk_frozen BK101.out 4
       have hfz29_5 := blk_frozen BK101.out 5
       have hfz29_6 := blk_frozen BK101.out 6
       have hfz29_7 := blk_frozen BK101.out 7
       have hfz29_8 := blk_frozen BK101.out 8
       go_wp2_with (first | ((with_reducible refine gate_callee (f := 63) rfl ?_); refine goesL_ (some 6) rfl rfl Try.func63 (by kernel_rfl) rfl #[.agg #[.int .i64 a0_0, .int .u64 a0_1, .int .u64 a0_2, .int .u64 a0_3, .int .u64 a0_4, .slice A0_5 l0_5.length c0_5, .slice A0_6 l0_6.length c0_6, .slice A0_7 l0_7.length c0_7, .slice A0_8 l0_8.length c0_8]] rfl (by (try simp only [List.map_toArray, List.map_cons, List.map_nil]); first | done | rfl | (simp only [List.length_drop, List.length_take]; rfl)) ?_; (with_reducible refine (tidepoleref10_Check.calls k a0_0 a0_1 a0_2 a0_3 a0_4 _ _ l0_5 _ _ l0_6 _ _ l0_7 _ _ l0_8 t103 _ ?side1 ?side2 ?side3 ?side4 ?side5 ?side6 ?side7 ?side8 A6.out).mono ?_); (case side1 => repeat (first | exact (Kd.C_below HR0_5.out HB.out) | (with_reducible refine Kd.C_alloc ?_ _) | (with_reducible refine Kd.C_drewN ?_ _) | (with_reducible refine Kd.C_drew ?_))); (case side2 => exact HC0_5.out); (case side3 => repeat (first | exact (Kd.C_below HR0_6.out HB.out) | (with_reducible refine Kd.C_alloc ?_ _) | (with_reducible refine Kd.C_drewN ?_ _) | (with_reducible refine Kd.C_drew ?_))); (case side4 => exact HC0_6.out); (case side5 => repeat (first | exact (Kd.C_below HR0_7.out HB.out) | (with_reducible refine Kd.C_alloc ?_ _) | (with_reducible refine Kd.C_drewN ?_ _) | (with_reducible refine Kd.C_drew ?_))); (case side6 => exact HC0_7.out); (case side7 => repeat (first | exact (Kd.C_below HR0_8.out HB.out) | (with_reducible refine Kd.C_alloc ?_ _) | (with_reducible refine Kd.C_drewN ?_ _) | (with_reducible refine Kd.C_drew ?_))); (case side8 => exact HC0_8.out); rintro e w30 ⟨rfl, hb⟩; refine ⟨_, rfl, ?_⟩; have n0_ := Aside0.mk (blk_below (g := gb101) (o := .cells #[.int .i64 a0_0, .int .u64 a0_1, .int .u64 a0_2, .int .u64 a0_3, .int .u64 a0_4, .slice A0_5 l0_5.length c0_5, .slice A0_6 l0_6.length c0_6, .slice A0_7 l0_7.length c0_7, .slice A0_8 l0_8.length c0_8] 84 (0, 0)) (by (with_reducible repeat (first | refine blk_drewN ?_ _ | refine blk_drew ?_ | refine blk_alloc ?_ _)); exact BK101.out) hb); have n1_ := Aside0.mk (blk_below (g := gb102) (o := .cells #[.int .i64 a1_0, .int .u64 a1_1, .int .u64 a1_2, .int .u64 a1_3, .int .u64 a1_4, .slice A1_5 l1_5.length c1_5, .slice A1_6 l1_6.length c1_6, .slice A1_7 l1_7.length c1_7, .slice A1_8 l1_8.length c1_8] 84 (0, 0)) (by (with_reducible repeat (first | refine blk_drewN ?_ _ | refine blk_drew ?_ | refine blk_alloc ?_ _)); exact BK102.out) hb); have n2_ := Aside0.mk (below_step (by repeat (first | (with_reducible first | exact HB.out | apply below_alloc | apply pw_below_drewN | apply below_drew1 | refine below_set ?_ GE101.out | refine below_set ?_ GE102.out) | exact HB.out)) hb); clear BK101; clear BK102; clear HB; have BK101 := n0_; have BK102 := n1_; have HB := n2_; clear n0_ n1_ n2_; (try clear hb); (try clear hb2); (try clear hk); (try clear hi); clear A6; have hcz31_0 : w30.cell? ⟨gb102, 0, none⟩ = some (.int .i64 a1_0) := (blk_cell BK102.out 0).trans rfl; have hcz31_1 : w30.cell? ⟨gb102, 1, none⟩ = some (.int .u64 a1_1) := (blk_cell BK102.out 1).trans rfl; have hcz31_2 : w30.cell? ⟨gb102, 2, none⟩ = some (.int .u64 a1_2) := (blk_cell BK102.out 2).trans rfl; have hcz31_3 : w30.cell? ⟨gb102, 3, none⟩ = some (.int .u64 a1_3) := (blk_cell BK102.out 3).trans rfl; have hcz31_4 : w30.cell? ⟨gb102, 4, none⟩ = some (.int .u64 a1_4) := (blk_cell BK102.out 4).trans rfl; have hcz31_5 : w30.cell? ⟨gb102, 5, none⟩ = some (.slice A1_5 l1_5.length c1_5) := (blk_cell BK102.out 5).trans rfl; have hcz31_6 : w30.cell? ⟨gb102, 6, none⟩ = some (.slice A1_6 l1_6.length c1_6) := (blk_cell BK102.out 6).trans rfl; have hcz31_7 : w30.cell? ⟨gb102, 7, none⟩ = some (.slice A1_7 l1_7.length c1_7) := (blk_cell BK102.out 7).trans rfl; have hcz31_8 : w30.cell? ⟨gb102, 8, none⟩ = some (.slice A1_8 l1_8.length c1_8) := (blk_cell BK102.out 8).trans rfl; have hfz31_0 := blk_frozen BK102.out 0; have hfz31_1 := blk_frozen BK102.out 1; have hfz31_2 := blk_frozen BK102.out 2; have hfz31_3 := blk_frozen BK102.out 3; have hfz31_4 := blk_frozen BK102.out 4; have hfz31_5 := blk_frozen BK102.out 5; have hfz31_6 := blk_frozen BK102.out 6; have hfz31_7 := blk_frozen BK102.out 7; have hfz31_8 := blk_frozen BK102.out 8) | (go_at_call 63; (with_reducible refine (tidepoleref10_Check.calls k a1_0 a1_1 a1_2 a1_3 a1_4 _ _ l1_5 _ _ l1_6 _ _ l1_7 _ _ l1_8 t104 _ ?side1 ?side2 ?side3 ?side4 ?side5 ?side6 ?side7 ?side8 A8.out).mono ?_); (case side1 => repeat (first | exact (Kd.C_below HR1_5.out HB.out) | (with_reducible refine Kd.C_alloc ?_ _) | (with_reducible refine Kd.C_drewN ?_ _) | (with_reducible refine Kd.C_drew ?_))); (case side2 => exact HC1_5.out); (case side3 => repeat (first | exact (Kd.C_below HR1_6.out HB.out) | (with_reducible refine Kd.C_alloc ?_ _) | (with_reducible refine Kd.C_drewN ?_ _) | (with_reducible refine Kd.C_drew ?_))); (case side4 => exact HC1_6.out); (case side5 => repeat (first | exact (Kd.C_below HR1_7.out HB.out) | (with_reducible refine Kd.C_alloc ?_ _) | (with_reducible refine Kd.C_drewN ?_ _) | (with_reducible refine Kd.C_drew ?_))); (case side6 => exact HC1_7.out); (case side7 => repeat (first | exact (Kd.C_below HR1_8.out HB.out) | (with_reducible refine Kd.C_alloc ?_ _) | (with_reducible refine Kd.C_drewN ?_ _) | (with_reducible refine Kd.C_drew ?_))); (case side8 => exact HC1_8.out); rintro e w32 ⟨rfl, hb⟩; have n0_ := Aside0.mk (blk_below (g := gb101) (o := .cells #[.int .i64 a0_0, .int .u64 a0_1, .int .u64 a0_2, .int .u64 a0_3, .int .u64 a0_4, .slice A0_5 l0_5.length c0_5, .slice A0_6 l0_6.length c0_6, .slice A0_7 l0_7.length c0_7, .slice A0_8 l0_8.length c0_8] 84 (0, 0)) (by (with_reducible repeat (first | refine blk_drewN ?_ _ | refine blk_drew ?_ | refine blk_alloc ?_ _)); exact BK101.out) hb); have n1_ := Aside0.mk (blk_below (g := gb102) (o := .cells #[.int .i64 a1_0, .int .u64 a1_1, .int .u64 a1_2, .int .u64 a1_3, .int .u64 a1_4, .slice A1_5 l1_5.length c1_5, .slice A1_6 l1_6.length c1_6, .slice A1_7 l1_7.length c1_7, .slice A1_8 l1_8.length c1_8] 84 (0, 0)) (by (with_reducible repeat (first | refine blk_drewN ?_ _ | refine blk_drew ?_ | refine blk_alloc ?_ _)); exact BK102.out) hb); have n2_ := Aside0.mk (below_step (by repeat (first | (with_reducible first | exact HB.out | apply below_alloc | apply pw_below_drewN | apply below_drew1 | refine below_set ?_ GE101.out | refine below_set ?_ GE102.out) | exact HB.out)) hb); clear BK101; clear BK102; clear HB; have BK101 := n0_; have BK102 := n1_; have HB := n2_; clear n0_ n1_ n2_; (try clear hb); (try clear hb2); (try clear hk); (try clear hi); clear A8; have hcz33_0 : w32.cell? ⟨gb101, 0, none⟩ = some (.int .i64 a0_0) := (blk_cell BK101.out 0).trans rfl; have hcz33_1 : w32.cell? ⟨gb101, 1, none⟩ = some (.int .u64 a0_1) := (blk_cell BK101.out 1).trans rfl; have hcz33_2 : w32.cell? ⟨gb101, 2, none⟩ = some (.int .u64 a0_2) := (blk_cell BK101.out 2).trans rfl; have hcz33_3 : w32.cell? ⟨gb101, 3, none⟩ = some (.int .u64 a0_3) := (blk_cell BK101.out 3).trans rfl; have hcz33_4 : w32.cell? ⟨gb101, 4, none⟩ = some (.int .u64 a0_4) := (blk_cell BK101.out 4).trans rfl; have hcz33_5 : w32.cell? ⟨gb101, 5, none⟩ = some (.slice A0_5 l0_5.length c0_5) := (blk_cell BK101.out 5).trans rfl; have hcz33_6 : w32.cell? ⟨gb101, 6, none⟩ = some (.slice A0_6 l0_6.length c0_6) := (blk_cell BK101.out 6).trans rfl; have hcz33_7 : w32.cell? ⟨gb101, 7, none⟩ = some (.slice A0_7 l0_7.length c0_7) := (blk_cell BK101.out 7).trans rfl; have hcz33_8 : w32.cell? ⟨gb101, 8, none⟩ = some (.slice A0_8 l0_8.length c0_8) := (blk_cell BK101.out 8).trans rfl; have hfz33_0 := blk_frozen BK101.out 0; have hfz33_1 := blk_frozen BK101.out 1; have hfz33_2 := blk_frozen BK101.out 2; have hfz33_3 := blk_frozen BK101.out 3; have hfz33_4 := blk_frozen BK101.out 4; have hfz33_5 := blk_frozen BK101.out 5; have hfz33_6 := blk_frozen BK101.out 6; have hfz33_7 := blk_frozen BK101.out 7; have hfz33_8 := blk_frozen BK101.out 8; have hcz34_0 : w32.cell? ⟨gb102, 0, none⟩ = some (.int .i64 a1_0) := (blk_cell BK102.out 0).trans rfl; have hcz34_1 : w32.cell? ⟨gb102, 1, none⟩ = some (.int .u64 a1_1) := (blk_cell BK102.out 1).trans rfl; have hcz34_2 : w32.cell? ⟨gb102, 2, none⟩ = some (.int .u64 a1_2) := (blk_cell BK102.out 2).trans rfl; have hcz34_3 : w32.cell? ⟨gb102, 3, none⟩ = some (.int .u64 a1_3) := (blk_cell BK102.out 3).trans rfl; have hcz34_4 : w32.cell? ⟨gb102, 4, none⟩ = some (.int .u64 a1_4) := (blk_cell BK102.out 4).trans rfl; have hcz34_5 : w32.cell? ⟨gb102, 5, none⟩ = some (.slice A1_5 l1_5.length c1_5) := (blk_cell BK102.out 5).trans rfl; have hcz34_6 : w32.cell? ⟨gb102, 6, none⟩ = some (.slice A1_6 l1_6.length c1_6) := (blk_cell BK102.out 6).trans rfl; have hcz34_7 : w32.cell? ⟨gb102, 7, none⟩ = some (.slice A1_7 l1_7.length c1_7) := (blk_cell BK102.out 7).trans rfl; have hcz34_8 : w32.cell? ⟨gb102, 8, none⟩ = some (.slice A1_8 l1_8.length c1_8) := (blk_cell BK102.out 8).trans rfl; have hfz34_0 := blk_frozen BK102.out 0; have hfz34_1 := blk_frozen BK102.out 1; have hfz34_2 := blk_frozen BK102.out 2; have hfz34_3 := blk_frozen BK102.out 3; have hfz34_4 := blk_frozen BK102.out 4; have hfz34_5 := blk_frozen BK102.out 5; have hfz34_6 := blk_frozen BK102.out 6; have hfz34_7 := blk_frozen BK102.out 7; have hfz34_8 := blk_frozen BK102.out 8))
       go_meet
       case rel => exact ⟨_, (true), (by first | rfl | (simp; done) | (simp [*]; done)), H', ⟨by first | omega | exact Nat.le_refl _⟩, ⟨by (with_reducible repeat (first | refine blk_drewN ?_ _ | refine blk_drew ?_ | refine blk_alloc ?_ _)); exact BK101.out⟩, ⟨by (with_reducible repeat (first | refine blk_drewN ?_ _ | refine blk_drew ?_ | refine blk_alloc ?_ _)); exact BK102.out⟩, ⟨by repeat (first | (with_reducible first | exact HB.out | apply below_alloc | apply pw_below_drewN | apply below_drew1 | refine below_set ?_ GE101.out | refine below_set ?_ GE102.out) | exact HB.out)⟩⟩
     ·rw [if_neg c11] at H
      have c11b0 : (a0_1 == a1_1) = false := beq_eq_false_iff_ne.mpr c11
      have c11b1 : (a0_1 != a1_1) = true := bne_iff_ne.mpr c11
      have H' := Aside0.mk H
      clear H
      have hnb35 := NB101_102.out
      have hnc35 := NB102_101.out
      have hcz36_0 : w5.cell? ⟨gb101, 0, none⟩ = some (.int .i64 a0_0) := (blk_cell BK101.out 0).trans rfl
      have hcz36_1 : w5.cell? ⟨gb101, 1, none⟩ = some (.int .u64 a0_1) := (blk_cell BK101.out 1).trans rfl
      have hcz36_2 : w5.cell? ⟨gb101, 2, none⟩ = some (.int .u64 a0_2) := (blk_cell BK101.out 2).trans rfl
      have hcz36_3 : w5.cell? ⟨gb101, 3, none⟩ = some (.int .u64 a0_3) := (blk_cell BK101.out 3).trans rfl
      have hcz36_4 : w5.cell? ⟨gb101, 4, none⟩ = some (.int .u64 a0_4) := (blk_cell BK101.out 4).trans rfl
      have hcz36_5 : w5.cell? ⟨gb101, 5, none⟩ = some (.slice A0_5 l0_5.length c0_5) := (blk_cell BK101.out 5).trans rfl
      have hcz36_6 : w5.cell? ⟨gb101, 6, none⟩ = some (.slice A0_6 l0_6.length c0_6) := (blk_cell BK101.out 6).trans rfl
      have hcz36_7 : w5.cell? ⟨gb101, 7, none⟩ = some (.slice A0_7 l0_7.length c0_7) := (blk_cell BK101.out 7).trans rfl
      have hcz36_8 : w5.cell? ⟨gb101, 8, none⟩ = some (.slice A0_8 l0_8.length c0_8) := (blk_cell BK101.out 8).trans rfl
      have hfz36_0 := blk_frozen BK101.out 0
      have hfz36_1 := blk_frozen BK101.out 1
      have hfz36_2 := blk_frozen BK101.out 2
      have hfz36_3 := blk_frozen BK101.out 3
      have hfz36_4 := blk_frozen BK101.out 4
      have hfz36_5 := blk_frozen BK101.out 5
      have hfz36_6 := blk_frozen BK101.out 6
      have hfz36_7 := blk_frozen BK101.out 7
      have hfz36_8 := blk_frozen BK101.out 8
      go_wp2_with (first | ((with_reducible refine gate_callee (f := 63) rfl ?_); refine goesL_ (some 6) rfl rfl Try.func63 (by kernel_rfl) rfl #[.agg #[.int .i64 a0_0, .int .u64 a0_1, .int .u64 a0_2, .int .u64 a0_3, .int .u64 a0_4, .slice A0_5 l0_5.length c0_5, .slice A0_6 l0_6.length c0_6, .slice A0_7 l0_7.length c0_7, .slice A0_8 l0_8.length c0_8]] rfl (by (try simp only [List.map_toArray, List.map_cons, List.map_nil]); first | done | rfl | (simp only [List.length_drop, List.length_take]; rfl)) ?_; (with_reducible refine (tidepoleref10_Check.calls k a0_0 a0_1 a0_2 a0_3 a0_4 _ _ l0_5 _ _ l0_6 _ _ l0_7 _ _ l0_8 t103 _ ?side1 ?side2 ?side3 ?side4 ?side5 ?side6 ?side7 ?side8 A6.out).mono ?_); (case side1 => repeat (first | exact (Kd.C_below HR0_5.out HB.out) | (with_reducible refine Kd.C_alloc ?_ _) | (with_reducible refine Kd.C_drewN ?_ _) | (with_reducible refine Kd.C_drew ?_))); (case side2 => exact HC0_5.out); (case side3 => repeat (first | exact (Kd.C_below HR0_6.out HB.out) | (with_reducible refine Kd.C_alloc ?_ _) | (with_reducible refine Kd.C_drewN ?_ _) | (with_reducible refine Kd.C_drew ?_))); (case side4 => exact HC0_6.out); (case side5 => repeat (first | exact (Kd.C_below HR0_7.out HB.out) | (with_reducible refine Kd.C_alloc ?_ _) | (with_reducible refine Kd.C_drewN ?_ _) | (with_reducible refine Kd.C_drew ?_))); (case side6 => exact HC0_7.out); (case side7 => repeat (first | exact (Kd.C_below HR0_8.out HB.out) | (with_reducible refine Kd.C_alloc ?_ _) | (with_reducible refine Kd.C_drewN ?_ _) | (with_reducible refine Kd.C_drew ?_))); (case side8 => exact HC0_8.out); rintro e w37 ⟨rfl, hb⟩; refine ⟨_, rfl, ?_⟩; have n0_ := Aside0.mk (blk_below (g := gb101) (o := .cells #[.int .i64 a0_0, .int .u64 a0_1, .int .u64 a0_2, .int .u64 a0_3, .int .u64 a0_4, .slice A0_5 l0_5.length c0_5, .slice A0_6 l0_6.length c0_6, .slice A0_7 l0_7.length c0_7, .slice A0_8 l0_8.length c0_8] 84 (0, 0)) (by (with_reducible repeat (first | refine blk_drewN ?_ _ | refine blk_drew ?_ | refine blk_alloc ?_ _)); exact BK101.out) hb); have n1_ := Aside0.mk (blk_below (g := gb102) (o := .cells #[.int .i64 a1_0, .int .u64 a1_1, .int .u64 a1_2, .int .u64 a1_3, .int .u64 a1_4, .slice A1_5 l1_5.length c1_5, .slice A1_6 l1_6.length c1_6, .slice A1_7 l1_7.length c1_7, .slice A1_8 l1_8.length c1_8] 84 (0, 0)) (by (with_reducible repeat (first | refine blk_drewN ?_ _ | refine blk_drew ?_ | refine blk_alloc ?_ _)); exact BK102.out) hb); have n2_ := Aside0.mk (below_step (by repeat (first | (with_reducible first | exact HB.out | apply below_alloc | apply pw_below_drewN | apply below_drew1 | refine below_set ?_ GE101.out | refine below_set ?_ GE102.out) | exact HB.out)) hb); clear BK101; clear BK102; clear HB; have BK101 := n0_; have BK102 := n1_; have HB := n2_; clear n0_ n1_ n2_; (try clear hb); (try clear hb2); (try clear hk); (try clear hi); clear A6; have hcz38_0 : w37.cell? ⟨gb102, 0, none⟩ = some (.int .i64 a1_0) := (blk_cell BK102.out 0).trans rfl; have hcz38_1 : w37.cell? ⟨gb102, 1, none⟩ = some (.int .u64 a1_1) := (blk_cell BK102.out 1).trans rfl; have hcz38_2 : w37.cell? ⟨gb102, 2, none⟩ = some (.int .u64 a1_2) := (blk_cell BK102.out 2).trans rfl; have hcz38_3 : w37.cell? ⟨gb102, 3, none⟩ = some (.int .u64 a1_3) := (blk_cell BK102.out 3).trans rfl; have hcz38_4 : w37.cell? ⟨gb102, 4, none⟩ = some (.int .u64 a1_4) := (blk_cell BK102.out 4).trans rfl; have hcz38_5 : w37.cell? ⟨gb102, 5, none⟩ = some (.slice A1_5 l1_5.length c1_5) := (blk_cell BK102.out 5).trans rfl; have hcz38_6 : w37.cell? ⟨gb102, 6, none⟩ = some (.slice A1_6 l1_6.length c1_6) := (blk_cell BK102.out 6).trans rfl; have hcz38_7 : w37.cell? ⟨gb102, 7, none⟩ = some (.slice A1_7 l1_7.length c1_7) := (blk_cell BK102.out 7).trans rfl; have hcz38_8 : w37.cell? ⟨gb102, 8, none⟩ = some (.slice A1_8 l1_8.length c1_8) := (blk_cell BK102.out 8).trans rfl; have hfz38_0 := blk_frozen BK102.out 0; have hfz38_1 := blk_frozen BK102.out 1; have hfz38_2 := blk_frozen BK102.out 2; have hfz38_3 := blk_frozen BK102.out 3; have hfz38_4 := blk_frozen BK102.out 4; have hfz38_5 := blk_frozen BK102.out 5; have hfz38_6 := blk_frozen BK102.out 6; have hfz38_7 := blk_frozen BK102.out 7; have hfz38_8 := blk_frozen BK102.out 8) | (go_at_call 63; (with_reducible refine (tidepoleref10_Check.calls k a1_0 a1_1 a1_2 a1_3 a1_4 _ _ l1_5 _ _ l1_6 _ _ l1_7 _ _ l1_8 t104 _ ?side1 ?side2 ?side3 ?side4 ?side5 ?side6 ?side7 ?side8 A8.out).mono ?_); (case side1 => repeat (first | exact (Kd.C_below HR1_5.out HB.out) | (with_reducible refine Kd.C_alloc ?_ _) | (with_reducible refine Kd.C_drewN ?_ _) | (with_reducible refine Kd.C_drew ?_))); (case side2 => exact HC1_5.out); (case side3 => repeat (first | exact (Kd.C_below HR1_6.out HB.out) | (with_reducible refine Kd.C_alloc ?_ _) | (with_reducible refine Kd.C_drewN ?_ _) | (with_reducible refine Kd.C_drew ?_))); (case side4 => exact HC1_6.out); (case side5 => repeat (first | exact (Kd.C_below HR1_7.out HB.out) | (with_reducible refine Kd.C_alloc ?_ _) | (with_reducible refine Kd.C_drewN ?_ _) | (with_reducible refine Kd.C_drew ?_))); (case side6 => exact HC1_7.out); (case side7 => repeat (first | exact (Kd.C_below HR1_8.out HB.out) | (with_reducible refine Kd.C_alloc ?_ _) | (with_reducible refine Kd.C_drewN ?_ _) | (with_reducible refine Kd.C_drew ?_))); (case side8 => exact HC1_8.out); rintro e w39 ⟨rfl, hb⟩; have n0_ := Aside0.mk (blk_below (g := gb101) (o := .cells #[.int .i64 a0_0, .int .u64 a0_1, .int .u64 a0_2, .int .u64 a0_3, .int .u64 a0_4, .slice A0_5 l0_5.length c0_5, .slice A0_6 l0_6.length c0_6, .slice A0_7 l0_7.length c0_7, .slice A0_8 l0_8.length c0_8] 84 (0, 0)) (by (with_reducible repeat (first | refine blk_drewN ?_ _ | refine blk_drew ?_ | refine blk_alloc ?_ _)); exact BK101.out) hb); have n1_ := Aside0.mk (blk_below (g := gb102) (o := .cells #[.int .i64 a1_0, .int .u64 a1_1, .int .u64 a1_2, .int .u64 a1_3, .int .u64 a1_4, .slice A1_5 l1_5.length c1_5, .slice A1_6 l1_6.length c1_6, .slice A1_7 l1_7.length c1_7, .slice A1_8 l1_8.length c1_8] 84 (0, 0)) (by (with_reducible repeat (first | refine blk_drewN ?_ _ | refine blk_drew ?_ | refine blk_alloc ?_ _)); exact BK102.out) hb); have n2_ := Aside0.mk (below_step (by repeat (first | (with_reducible first | exact HB.out | apply below_alloc | apply pw_below_drewN | apply below_drew1 | refine below_set ?_ GE101.out | refine below_set ?_ GE102.out) | exact HB.out)) hb); clear BK101; clear BK102; clear HB; have BK101 := n0_; have BK102 := n1_; have HB := n2_; clear n0_ n1_ n2_; (try clear hb); (try clear hb2); (try clear hk); (try clear hi); clear A8; have hcz40_0 : w39.cell? ⟨gb101, 0, none⟩ = some (.int .i64 a0_0) := (blk_cell BK101.out 0).trans rfl; have hcz40_1 : w39.cell? ⟨gb101, 1, none⟩ = some (.int .u64 a0_1) := (blk_cell BK101.out 1).trans rfl; have hcz40_2 : w39.cell? ⟨gb101, 2, none⟩ = some (.int .u64 a0_2) := (blk_cell BK101.out 2).trans rfl; have hcz40_3 : w39.cell? ⟨gb101, 3, none⟩ = some (.int .u64 a0_3) := (blk_cell BK101.out 3).trans rfl; have hcz40_4 : w39.cell? ⟨gb101, 4, none⟩ = some (.int .u64 a0_4) := (blk_cell BK101.out 4).trans rfl; have hcz40_5 : w39.cell? ⟨gb101, 5, none⟩ = some (.slice A0_5 l0_5.length c0_5) := (blk_cell BK101.out 5).trans rfl; have hcz40_6 : w39.cell? ⟨gb101, 6, none⟩ = some (.slice A0_6 l0_6.length c0_6) := (blk_cell BK101.out 6).trans rfl; have hcz40_7 : w39.cell? ⟨gb101, 7, none⟩ = some (.slice A0_7 l0_7.length c0_7) := (blk_cell BK101.out 7).trans rfl; have hcz40_8 : w39.cell? ⟨gb101, 8, none⟩ = some (.slice A0_8 l0_8.length c0_8) := (blk_cell BK101.out 8).trans rfl; have hfz40_0 := blk_frozen BK101.out 0; have hfz40_1 := blk_frozen BK101.out 1; have hfz40_2 := blk_frozen BK101.out 2; have hfz40_3 := blk_frozen BK101.out 3; have hfz40_4 := blk_frozen BK101.out 4; have hfz40_5 := blk_frozen BK101.out 5; have hfz40_6 := blk_frozen BK101.out 6; have hfz40_7 := blk_frozen BK101.out 7; have hfz40_8 := blk_frozen BK101.out 8; have hcz41_0 : w39.cell? ⟨gb102, 0, none⟩ = some (.int .i64 a1_0) := (blk_cell BK102.out 0).trans rfl; have hcz41_1 : w39.cell? ⟨gb102, 1, none⟩ = some (.int .u64 a1_1) := (blk_cell BK102.out 1).trans rfl; have hcz41_2 : w39.cell? ⟨gb102, 2, none⟩ = some (.int .u64 a1_2) := (blk_cell BK102.out 2).trans rfl; have hcz41_3 : w39.cell? ⟨gb102, 3, none⟩ = some (.int .u64 a1_3) := (blk_cell BK102.out 3).trans rfl; have hcz41_4 : w39.cell? ⟨gb102, 4, none⟩ = some (.int .u64 a1_4) := (blk_cell BK102.out 4).trans rfl; have hcz41_5 : w39.cell? ⟨gb102, 5, none⟩ = some (.slice A1_5 l1_5.length c1_5) := (blk_cell BK102.out 5).trans rfl; have hcz41_6 : w39.cell? ⟨gb102, 6, none⟩ = some (.slice A1_6 l1_6.length c1_6) := (blk_cell BK102.out 6).trans rfl; have hcz41_7 : w39.cell? ⟨gb102, 7, none⟩ = some (.slice A1_7 l1_7.length c1_7) := (blk_cell BK102.out 7).trans rfl; have hcz41_8 : w39.cell? ⟨gb102, 8, none⟩ = some (.slice A1_8 l1_8.length c1_8) := (blk_cell BK102.out 8).trans rfl; have hfz41_0 := blk_frozen BK102.out 0; have hfz41_1 := blk_frozen BK102.out 1; have hfz41_2 := blk_frozen BK102.out 2; have hfz41_3 := blk_frozen BK102.out 3; have hfz41_4 := blk_frozen BK102.out 4; have hfz41_5 := blk_frozen BK102.out 5; have hfz41_6 := blk_frozen BK102.out 6; have hfz41_7 := blk_frozen BK102.out 7; have hfz41_8 := blk_frozen BK102.out 8))
      go_meet
      case rel => exact ⟨_, (true), (by first | rfl | (simp; done) | (simp [*]; done)), H', ⟨by first | omega | exact Nat.le_refl _⟩, ⟨by (with_reducible repeat (first | refine blk_drewN ?_ _ | refine blk_drew ?_ | refine blk_alloc ?_ _)); exact BK101.out⟩, ⟨by (with_reducible repeat (first | refine blk_drewN ?_ _ | refine blk_drew ?_ | refine blk_alloc ?_ _)); exact BK102.out⟩, ⟨by repeat (first | (with_reducible first | exact HB.out | apply below_alloc | apply pw_below_drewN | apply below_drew1 | refine below_set ?_ GE101.out | refine below_set ?_ GE102.out) | exact HB.out)⟩⟩
    ·rw [if_neg c10] at H
     have c10b0 : (a0_0 == a1_0) = false := beq_eq_false_iff_ne.mpr c10
     have c10b1 : (a0_0 != a1_0) = true := bne_iff_ne.mpr c10
     have H' := Aside0.mk H
     clear H
     have hnb42 := NB101_102.out
     have hnc42 := NB102_101.out
     have hcz43_0 : w5.cell? ⟨gb101, 0, none⟩ = some (.int .i64 a0_0) := (blk_cell BK101.out 0).trans rfl
     have hcz43_1 : w5.cell? ⟨gb101, 1, none⟩ = some (.int .u64 a0_1) := (blk_cell BK101.out 1).trans rfl
     have hcz43_2 : w5.cell? ⟨gb101, 2, none⟩ = some (.int .u64 a0_2) := (blk_cell BK101.out 2).trans rfl
     have hcz43_3 : w5.cell? ⟨gb101, 3, none⟩ = some (.int .u64 a0_3) := (blk_cell BK101.out 3).trans rfl
     have hcz43_4 : w5.cell? ⟨gb101, 4, none⟩ = some (.int .u64 a0_4) := (blk_cell BK101.out 4).trans rfl
     have hcz43_5 : w5.cell? ⟨gb101, 5, none⟩ = some (.slice A0_5 l0_5.length c0_5) := (blk_cell BK101.out 5).trans rfl
     have hcz43_6 : w5.cell? ⟨gb101, 6, none⟩ = some (.slice A0_6 l0_6.length c0_6) := (blk_cell BK101.out 6).trans rfl
     have hcz43_7 : w5.cell? ⟨gb101, 7, none⟩ = some (.slice A0_7 l0_7.length c0_7) := (blk_cell BK101.out 7).trans rfl
     have hcz43_8 : w5.cell? ⟨gb101, 8, none⟩ = some (.slice A0_8 l0_8.length c0_8) := (blk_cell BK101.out 8).trans rfl
     have hfz43_0 := blk_frozen BK101.out 0
     have hfz43_1 := blk_frozen BK101.out 1
     have hfz43_2 := blk_frozen BK101.out 2
     have hfz43_3 := blk_frozen BK101.out 3
     have hfz43_4 := blk_frozen BK101.out 4
     have hfz43_5 := blk_frozen BK101.out 5
     have hfz43_6 := blk_frozen BK101.out 6
     have hfz43_7 := blk_frozen BK101.out 7
     have hfz43_8 := blk_frozen BK101.out 8
     go_wp2_with (first | ((with_reducible refine gate_callee (f := 63) rfl ?_); refine goesL_ (some 6) rfl rfl Try.func63 (by kernel_rfl) rfl #[.agg #[.int .i64 a0_0, .int .u64 a0_1, .int .u64 a0_2, .int .u64 a0_3, .int .u64 a0_4, .slice A0_5 l0_5.length c0_5, .slice A0_6 l0_6.length c0_6, .slice A0_7 l0_7.length c0_7, .slice A0_8 l0_8.length c0_8]] rfl (by (try simp only [List.map_toArray, List.map_cons, List.map_nil]); first | done | rfl | (simp only [List.length_drop, List.length_take]; rfl)) ?_; (with_reducible refine (tidepoleref10_Check.calls k a0_0 a0_1 a0_2 a0_3 a0_4 _ _ l0_5 _ _ l0_6 _ _ l0_7 _ _ l0_8 t103 _ ?side1 ?side2 ?side3 ?side4 ?side5 ?side6 ?side7 ?side8 A6.out).mono ?_); (case side1 => repeat (first | exact (Kd.C_below HR0_5.out HB.out) | (with_reducible refine Kd.C_alloc ?_ _) | (with_reducible refine Kd.C_drewN ?_ _) | (with_reducible refine Kd.C_drew ?_))); (case side2 => exact HC0_5.out); (case side3 => repeat (first | exact (Kd.C_below HR0_6.out HB.out) | (with_reducible refine Kd.C_alloc ?_ _) | (with_reducible refine Kd.C_drewN ?_ _) | (with_reducible refine Kd.C_drew ?_))); (case side4 => exact HC0_6.out); (case side5 => repeat (first | exact (Kd.C_below HR0_7.out HB.out) | (with_reducible refine Kd.C_alloc ?_ _) | (with_reducible refine Kd.C_drewN ?_ _) | (with_reducible refine Kd.C_drew ?_))); (case side6 => exact HC0_7.out); (case side7 => repeat (first | exact (Kd.C_below HR0_8.out HB.out) | (with_reducible refine Kd.C_alloc ?_ _) | (with_reducible refine Kd.C_drewN ?_ _) | (with_reducible refine Kd.C_drew ?_))); (case side8 => exact HC0_8.out); rintro e w44 ⟨rfl, hb⟩; refine ⟨_, rfl, ?_⟩; have n0_ := Aside0.mk (blk_below (g := gb101) (o := .cells #[.int .i64 a0_0, .int .u64 a0_1, .int .u64 a0_2, .int .u64 a0_3, .int .u64 a0_4, .slice A0_5 l0_5.length c0_5, .slice A0_6 l0_6.length c0_6, .slice A0_7 l0_7.length c0_7, .slice A0_8 l0_8.length c0_8] 84 (0, 0)) (by (with_reducible repeat (first | refine blk_drewN ?_ _ | refine blk_drew ?_ | refine blk_alloc ?_ _)); exact BK101.out) hb); have n1_ := Aside0.mk (blk_below (g := gb102) (o := .cells #[.int .i64 a1_0, .int .u64 a1_1, .int .u64 a1_2, .int .u64 a1_3, .int .u64 a1_4, .slice A1_5 l1_5.length c1_5, .slice A1_6 l1_6.length c1_6, .slice A1_7 l1_7.length c1_7, .slice A1_8 l1_8.length c1_8] 84 (0, 0)) (by (with_reducible repeat (first | refine blk_drewN ?_ _ | refine blk_drew ?_ | refine blk_alloc ?_ _)); exact BK102.out) hb); have n2_ := Aside0.mk (below_step (by repeat (first | (with_reducible first | exact HB.out | apply below_alloc | apply pw_below_drewN | apply below_drew1 | refine below_set ?_ GE101.out | refine below_set ?_ GE102.out) | exact HB.out)) hb); clear BK101; clear BK102; clear HB; have BK101 := n0_; have BK102 := n1_; have HB := n2_; clear n0_ n1_ n2_; (try clear hb); (try clear hb2); (try clear hk); (try clear hi); clear A6; have hcz45_0 : w44.cell? ⟨gb102, 0, none⟩ = some (.int .i64 a1_0) := (blk_cell BK102.out 0).trans rfl; have hcz45_1 : w44.cell? ⟨gb102, 1, none⟩ = some (.int .u64 a1_1) := (blk_cell BK102.out 1).trans rfl; have hcz45_2 : w44.cell? ⟨gb102, 2, none⟩ = some (.int .u64 a1_2) := (blk_cell BK102.out 2).trans rfl; have hcz45_3 : w44.cell? ⟨gb102, 3, none⟩ = some (.int .u64 a1_3) := (blk_cell BK102.out 3).trans rfl; have hcz45_4 : w44.cell? ⟨gb102, 4, none⟩ = some (.int .u64 a1_4) := (blk_cell BK102.out 4).trans rfl; have hcz45_5 : w44.cell? ⟨gb102, 5, none⟩ = some (.slice A1_5 l1_5.length c1_5) := (blk_cell BK102.out 5).trans rfl; have hcz45_6 : w44.cell? ⟨gb102, 6, none⟩ = some (.slice A1_6 l1_6.length c1_6) := (blk_cell BK102.out 6).trans rfl; have hcz45_7 : w44.cell? ⟨gb102, 7, none⟩ = some (.slice A1_7 l1_7.length c1_7) := (blk_cell BK102.out 7).trans rfl; have hcz45_8 : w44.cell? ⟨gb102, 8, none⟩ = some (.slice A1_8 l1_8.length c1_8) := (blk_cell BK102.out 8).trans rfl; have hfz45_0 := blk_frozen BK102.out 0; have hfz45_1 := blk_frozen BK102.out 1; have hfz45_2 := blk_frozen BK102.out 2; have hfz45_3 := blk_frozen BK102.out 3; have hfz45_4 := blk_frozen BK102.out 4; have hfz45_5 := blk_frozen BK102.out 5; have hfz45_6 := blk_frozen BK102.out 6; have hfz45_7 := blk_frozen BK102.out 7; have hfz45_8 := blk_frozen BK102.out 8) | (go_at_call 63; (with_reducible refine (tidepoleref10_Check.calls k a1_0 a1_1 a1_2 a1_3 a1_4 _ _ l1_5 _ _ l1_6 _ _ l1_7 _ _ l1_8 t104 _ ?side1 ?side2 ?side3 ?side4 ?side5 ?side6 ?side7 ?side8 A8.out).mono ?_); (case side1 => repeat (first | exact (Kd.C_below HR1_5.out HB.out) | (with_reducible refine Kd.C_alloc ?_ _) | (with_reducible refine Kd.C_drewN ?_ _) | (with_reducible refine Kd.C_drew ?_))); (case side2 => exact HC1_5.out); (case side3 => repeat (first | exact (Kd.C_below HR1_6.out HB.out) | (with_reducible refine Kd.C_alloc ?_ _) | (with_reducible refine Kd.C_drewN ?_ _) | (with_reducible refine Kd.C_drew ?_))); (case side4 => exact HC1_6.out); (case side5 => repeat (first | exact (Kd.C_below HR1_7.out HB.out) | (with_reducible refine Kd.C_alloc ?_ _) | (with_reducible refine Kd.C_drewN ?_ _) | (with_reducible refine Kd.C_drew ?_))); (case side6 => exact HC1_7.out); (case side7 => repeat (first | exact (Kd.C_below HR1_8.out HB.out) | (with_reducible refine Kd.C_alloc ?_ _) | (with_reducible refine Kd.C_drewN ?_ _) | (with_reducible refine Kd.C_drew ?_))); (case side8 => exact HC1_8.out); rintro e w46 ⟨rfl, hb⟩; have n0_ := Aside0.mk (blk_below (g := gb101) (o := .cells #[.int .i64 a0_0, .int .u64 a0_1, .int .u64 a0_2, .int .u64 a0_3, .int .u64 a0_4, .slice A0_5 l0_5.length c0_5, .slice A0_6 l0_6.length c0_6, .slice A0_7 l0_7.length c0_7, .slice A0_8 l0_8.length c0_8] 84 (0, 0)) (by (with_reducible repeat (first | refine blk_drewN ?_ _ | refine blk_drew ?_ | refine blk_alloc ?_ _)); exact BK101.out) hb); have n1_ := Aside0.mk (blk_below (g := gb102) (o := .cells #[.int .i64 a1_0, .int .u64 a1_1, .int .u64 a1_2, .int .u64 a1_3, .int .u64 a1_4, .slice A1_5 l1_5.length c1_5, .slice A1_6 l1_6.length c1_6, .slice A1_7 l1_7.length c1_7, .slice A1_8 l1_8.length c1_8] 84 (0, 0)) (by (with_reducible repeat (first | refine blk_drewN ?_ _ | refine blk_drew ?_ | refine blk_alloc ?_ _)); exact BK102.out) hb); have n2_ := Aside0.mk (below_step (by repeat (first | (with_reducible first | exact HB.out | apply below_alloc | apply pw_below_drewN | apply below_drew1 | refine below_set ?_ GE101.out | refine below_set ?_ GE102.out) | exact HB.out)) hb); clear BK101; clear BK102; clear HB; have BK101 := n0_; have BK102 := n1_; have HB := n2_; clear n0_ n1_ n2_; (try clear hb); (try clear hb2); (try clear hk); (try clear hi); clear A8; have hcz47_0 : w46.cell? ⟨gb101, 0, none⟩ = some (.int .i64 a0_0) := (blk_cell BK101.out 0).trans rfl; have hcz47_1 : w46.cell? ⟨gb101, 1, none⟩ = some (.int .u64 a0_1) := (blk_cell BK101.out 1).trans rfl; have hcz47_2 : w46.cell? ⟨gb101, 2, none⟩ = some (.int .u64 a0_2) := (blk_cell BK101.out 2).trans rfl; have hcz47_3 : w46.cell? ⟨gb101, 3, none⟩ = some (.int .u64 a0_3) := (blk_cell BK101.out 3).trans rfl; have hcz47_4 : w46.cell? ⟨gb101, 4, none⟩ = some (.int .u64 a0_4) := (blk_cell BK101.out 4).trans rfl; have hcz47_5 : w46.cell? ⟨gb101, 5, none⟩ = some (.slice A0_5 l0_5.length c0_5) := (blk_cell BK101.out 5).trans rfl; have hcz47_6 : w46.cell? ⟨gb101, 6, none⟩ = some (.slice A0_6 l0_6.length c0_6) := (blk_cell BK101.out 6).trans rfl; have hcz47_7 : w46.cell? ⟨gb101, 7, none⟩ = some (.slice A0_7 l0_7.length c0_7) := (blk_cell BK101.out 7).trans rfl; have hcz47_8 : w46.cell? ⟨gb101, 8, none⟩ = some (.slice A0_8 l0_8.length c0_8) := (blk_cell BK101.out 8).trans rfl; have hfz47_0 := blk_frozen BK101.out 0; have hfz47_1 := blk_frozen BK101.out 1; have hfz47_2 := blk_frozen BK101.out 2; have hfz47_3 := blk_frozen BK101.out 3; have hfz47_4 := blk_frozen BK101.out 4; have hfz47_5 := blk_frozen BK101.out 5; have hfz47_6 := blk_frozen BK101.out 6; have hfz47_7 := blk_frozen BK101.out 7; have hfz47_8 := blk_frozen BK101.out 8; have hcz48_0 : w46.cell? ⟨gb102, 0, none⟩ = some (.int .i64 a1_0) := (blk_cell BK102.out 0).trans rfl; have hcz48_1 : w46.cell? ⟨gb102, 1, none⟩ = some (.int .u64 a1_1) := (blk_cell BK102.out 1).trans rfl; have hcz48_2 : w46.cell? ⟨gb102, 2, none⟩ = some (.int .u64 a1_2) := (blk_cell BK102.out 2).trans rfl; have hcz48_3 : w46.cell? ⟨gb102, 3, none⟩ = some (.int .u64 a1_3) := (blk_cell BK102.out 3).trans rfl; have hcz48_4 : w46.cell? ⟨gb102, 4, none⟩ = some (.int .u64 a1_4) := (blk_cell BK102.out 4).trans rfl; have hcz48_5 : w46.cell? ⟨gb102, 5, none⟩ = some (.slice A1_5 l1_5.length c1_5) := (blk_cell BK102.out 5).trans rfl; have hcz48_6 : w46.cell? ⟨gb102, 6, none⟩ = some (.slice A1_6 l1_6.length c1_6) := (blk_cell BK102.out 6).trans rfl; have hcz48_7 : w46.cell? ⟨gb102, 7, none⟩ = some (.slice A1_7 l1_7.length c1_7) := (blk_cell BK102.out 7).trans rfl; have hcz48_8 : w46.cell? ⟨gb102, 8, none⟩ = some (.slice A1_8 l1_8.length c1_8) := (blk_cell BK102.out 8).trans rfl; have hfz48_0 := blk_frozen BK102.out 0; have hfz48_1 := blk_frozen BK102.out 1; have hfz48_2 := blk_frozen BK102.out 2; have hfz48_3 := blk_frozen BK102.out 3; have hfz48_4 := blk_frozen BK102.out 4; have hfz48_5 := blk_frozen BK102.out 5; have hfz48_6 := blk_frozen BK102.out 6; have hfz48_7 := blk_frozen BK102.out 7; have hfz48_8 := blk_frozen BK102.out 8))
     go_meet
     case rel => exact ⟨_, (true), (by first | rfl | (simp; done) | (simp [*]; done)), H', ⟨by first | omega | exact Nat.le_refl _⟩, ⟨by (with_reducible repeat (first | refine blk_drewN ?_ _ | refine blk_drew ?_ | refine blk_alloc ?_ _)); exact BK101.out⟩, ⟨by (with_reducible repeat (first | refine blk_drewN ?_ _ | refine blk_drew ?_ | refine blk_alloc ?_ _)); exact BK102.out⟩, ⟨by repeat (first | (with_reducible first | exact HB.out | apply below_alloc | apply pw_below_drewN | apply below_drew1 | refine below_set ?_ GE101.out | refine below_set ?_ GE102.out) | exact HB.out)⟩⟩
   ·rw [if_neg c9] at H
    have c9b0 : (t104 == 0) = false := beq_eq_false_iff_ne.mpr c9
    have c9b1 : (t104 != 0) = true := bne_iff_ne.mpr c9
    have H' := Aside0.mk H
    clear H
    have hnb49 := NB101_102.out
    have hnc49 := NB102_101.out
    have hcz50_0 : w5.cell? ⟨gb101, 0, none⟩ = some (.int .i64 a0_0) := (blk_cell BK101.out 0).trans rfl
    have hcz50_1 : w5.cell? ⟨gb101, 1, none⟩ = some (.int .u64 a0_1) := (blk_cell BK101.out 1).trans rfl
    have hcz50_2 : w5.cell? ⟨gb101, 2, none⟩ = some (.int .u64 a0_2) := (blk_cell BK101.out 2).trans rfl
    have hcz50_3 : w5.cell? ⟨gb101, 3, none⟩ = some (.int .u64 a0_3) := (blk_cell BK101.out 3).trans rfl
    have hcz50_4 : w5.cell? ⟨gb101, 4, none⟩ = some (.int .u64 a0_4) := (blk_cell BK101.out 4).trans rfl
    have hcz50_5 : w5.cell? ⟨gb101, 5, none⟩ = some (.slice A0_5 l0_5.length c0_5) := (blk_cell BK101.out 5).trans rfl
    have hcz50_6 : w5.cell? ⟨gb101, 6, none⟩ = some (.slice A0_6 l0_6.length c0_6) := (blk_cell BK101.out 6).trans rfl
    have hcz50_7 : w5.cell? ⟨gb101, 7, none⟩ = some (.slice A0_7 l0_7.length c0_7) := (blk_cell BK101.out 7).trans rfl
    have hcz50_8 : w5.cell? ⟨gb101, 8, none⟩ = some (.slice A0_8 l0_8.length c0_8) := (blk_cell BK101.out 8).trans rfl
    have hfz50_0 := blk_frozen BK101.out 0
    have hfz50_1 := blk_frozen BK101.out 1
    have hfz50_2 := blk_frozen BK101.out 2
    have hfz50_3 := blk_frozen BK101.out 3
    have hfz50_4 := blk_frozen BK101.out 4
    have hfz50_5 := blk_frozen BK101.out 5
    have hfz50_6 := blk_frozen BK101.out 6
    have hfz50_7 := blk_frozen BK101.out 7
    have hfz50_8 := blk_frozen BK101.out 8
    go_wp2_with (first | ((with_reducible refine gate_callee (f := 63) rfl ?_); refine goesL_ (some 6) rfl rfl Try.func63 (by kernel_rfl) rfl #[.agg #[.int .i64 a0_0, .int .u64 a0_1, .int .u64 a0_2, .int .u64 a0_3, .int .u64 a0_4, .slice A0_5 l0_5.length c0_5, .slice A0_6 l0_6.length c0_6, .slice A0_7 l0_7.length c0_7, .slice A0_8 l0_8.length c0_8]] rfl (by (try simp only [List.map_toArray, List.map_cons, List.map_nil]); first | done | rfl | (simp only [List.length_drop, List.length_take]; rfl)) ?_; (with_reducible refine (tidepoleref10_Check.calls k a0_0 a0_1 a0_2 a0_3 a0_4 _ _ l0_5 _ _ l0_6 _ _ l0_7 _ _ l0_8 t103 _ ?side1 ?side2 ?side3 ?side4 ?side5 ?side6 ?side7 ?side8 A6.out).mono ?_); (case side1 => repeat (first | exact (Kd.C_below HR0_5.out HB.out) | (with_reducible refine Kd.C_alloc ?_ _) | (with_reducible refine Kd.C_drewN ?_ _) | (with_reducible refine Kd.C_drew ?_))); (case side2 => exact HC0_5.out); (case side3 => repeat (first | exact (Kd.C_below HR0_6.out HB.out) | (with_reducible refine Kd.C_alloc ?_ _) | (with_reducible refine Kd.C_drewN ?_ _) | (with_reducible refine Kd.C_drew ?_))); (case side4 => exact HC0_6.out); (case side5 => repeat (first | exact (Kd.C_below HR0_7.out HB.out) | (with_reducible refine Kd.C_alloc ?_ _) | (with_reducible refine Kd.C_drewN ?_ _) | (with_reducible refine Kd.C_drew ?_))); (case side6 => exact HC0_7.out); (case side7 => repeat (first | exact (Kd.C_below HR0_8.out HB.out) | (with_reducible refine Kd.C_alloc ?_ _) | (with_reducible refine Kd.C_drewN ?_ _) | (with_reducible refine Kd.C_drew ?_))); (case side8 => exact HC0_8.out); rintro e w51 ⟨rfl, hb⟩; refine ⟨_, rfl, ?_⟩; have n0_ := Aside0.mk (blk_below (g := gb101) (o := .cells #[.int .i64 a0_0, .int .u64 a0_1, .int .u64 a0_2, .int .u64 a0_3, .int .u64 a0_4, .slice A0_5 l0_5.length c0_5, .slice A0_6 l0_6.length c0_6, .slice A0_7 l0_7.length c0_7, .slice A0_8 l0_8.length c0_8] 84 (0, 0)) (by (with_reducible repeat (first | refine blk_drewN ?_ _ | refine blk_drew ?_ | refine blk_alloc ?_ _)); exact BK101.out) hb); have n1_ := Aside0.mk (blk_below (g := gb102) (o := .cells #[.int .i64 a1_0, .int .u64 a1_1, .int .u64 a1_2, .int .u64 a1_3, .int .u64 a1_4, .slice A1_5 l1_5.length c1_5, .slice A1_6 l1_6.length c1_6, .slice A1_7 l1_7.length c1_7, .slice A1_8 l1_8.length c1_8] 84 (0, 0)) (by (with_reducible repeat (first | refine blk_drewN ?_ _ | refine blk_drew ?_ | refine blk_alloc ?_ _)); exact BK102.out) hb); have n2_ := Aside0.mk (below_step (by repeat (first | (with_reducible first | exact HB.out | apply below_alloc | apply pw_below_drewN | apply below_drew1 | refine below_set ?_ GE101.out | refine below_set ?_ GE102.out) | exact HB.out)) hb); clear BK101; clear BK102; clear HB; have BK101 := n0_; have BK102 := n1_; have HB := n2_; clear n0_ n1_ n2_; (try clear hb); (try clear hb2); (try clear hk); (try clear hi); clear A6; have hcz52_0 : w51.cell? ⟨gb102, 0, none⟩ = some (.int .i64 a1_0) := (blk_cell BK102.out 0).trans rfl; have hcz52_1 : w51.cell? ⟨gb102, 1, none⟩ = some (.int .u64 a1_1) := (blk_cell BK102.out 1).trans rfl; have hcz52_2 : w51.cell? ⟨gb102, 2, none⟩ = some (.int .u64 a1_2) := (blk_cell BK102.out 2).trans rfl; have hcz52_3 : w51.cell? ⟨gb102, 3, none⟩ = some (.int .u64 a1_3) := (blk_cell BK102.out 3).trans rfl; have hcz52_4 : w51.cell? ⟨gb102, 4, none⟩ = some (.int .u64 a1_4) := (blk_cell BK102.out 4).trans rfl; have hcz52_5 : w51.cell? ⟨gb102, 5, none⟩ = some (.slice A1_5 l1_5.length c1_5) := (blk_cell BK102.out 5).trans rfl; have hcz52_6 : w51.cell? ⟨gb102, 6, none⟩ = some (.slice A1_6 l1_6.length c1_6) := (blk_cell BK102.out 6).trans rfl; have hcz52_7 : w51.cell? ⟨gb102, 7, none⟩ = some (.slice A1_7 l1_7.length c1_7) := (blk_cell BK102.out 7).trans rfl; have hcz52_8 : w51.cell? ⟨gb102, 8, none⟩ = some (.slice A1_8 l1_8.length c1_8) := (blk_cell BK102.out 8).trans rfl; have hfz52_0 := blk_frozen BK102.out 0; have hfz52_1 := blk_frozen BK102.out 1; have hfz52_2 := blk_frozen BK102.out 2; have hfz52_3 := blk_frozen BK102.out 3; have hfz52_4 := blk_frozen BK102.out 4; have hfz52_5 := blk_frozen BK102.out 5; have hfz52_6 := blk_frozen BK102.out 6; have hfz52_7 := blk_frozen BK102.out 7; have hfz52_8 := blk_frozen BK102.out 8) | (go_at_call 63; (with_reducible refine (tidepoleref10_Check.calls k a1_0 a1_1 a1_2 a1_3 a1_4 _ _ l1_5 _ _ l1_6 _ _ l1_7 _ _ l1_8 t104 _ ?side1 ?side2 ?side3 ?side4 ?side5 ?side6 ?side7 ?side8 A8.out).mono ?_); (case side1 => repeat (first | exact (Kd.C_below HR1_5.out HB.out) | (with_reducible refine Kd.C_alloc ?_ _) | (with_reducible refine Kd.C_drewN ?_ _) | (with_reducible refine Kd.C_drew ?_))); (case side2 => exact HC1_5.out); (case side3 => repeat (first | exact (Kd.C_below HR1_6.out HB.out) | (with_reducible refine Kd.C_alloc ?_ _) | (with_reducible refine Kd.C_drewN ?_ _) | (with_reducible refine Kd.C_drew ?_))); (case side4 => exact HC1_6.out); (case side5 => repeat (first | exact (Kd.C_below HR1_7.out HB.out) | (with_reducible refine Kd.C_alloc ?_ _) | (with_reducible refine Kd.C_drewN ?_ _) | (with_reducible refine Kd.C_drew ?_))); (case side6 => exact HC1_7.out); (case side7 => repeat (first | exact (Kd.C_below HR1_8.out HB.out) | (with_reducible refine Kd.C_alloc ?_ _) | (with_reducible refine Kd.C_drewN ?_ _) | (with_reducible refine Kd.C_drew ?_))); (case side8 => exact HC1_8.out); rintro e w53 ⟨rfl, hb⟩; have n0_ := Aside0.mk (blk_below (g := gb101) (o := .cells #[.int .i64 a0_0, .int .u64 a0_1, .int .u64 a0_2, .int .u64 a0_3, .int .u64 a0_4, .slice A0_5 l0_5.length c0_5, .slice A0_6 l0_6.length c0_6, .slice A0_7 l0_7.length c0_7, .slice A0_8 l0_8.length c0_8] 84 (0, 0)) (by (with_reducible repeat (first | refine blk_drewN ?_ _ | refine blk_drew ?_ | refine blk_alloc ?_ _)); exact BK101.out) hb); have n1_ := Aside0.mk (blk_below (g := gb102) (o := .cells #[.int .i64 a1_0, .int .u64 a1_1, .int .u64 a1_2, .int .u64 a1_3, .int .u64 a1_4, .slice A1_5 l1_5.length c1_5, .slice A1_6 l1_6.length c1_6, .slice A1_7 l1_7.length c1_7, .slice A1_8 l1_8.length c1_8] 84 (0, 0)) (by (with_reducible repeat (first | refine blk_drewN ?_ _ | refine blk_drew ?_ | refine blk_alloc ?_ _)); exact BK102.out) hb); have n2_ := Aside0.mk (below_step (by repeat (first | (with_reducible first | exact HB.out | apply below_alloc | apply pw_below_drewN | apply below_drew1 | refine below_set ?_ GE101.out | refine below_set ?_ GE102.out) | exact HB.out)) hb); clear BK101; clear BK102; clear HB; have BK101 := n0_; have BK102 := n1_; have HB := n2_; clear n0_ n1_ n2_; (try clear hb); (try clear hb2); (try clear hk); (try clear hi); clear A8))
    go_meet
    case rel => exact ⟨_, (true), (by first | rfl | (simp; done) | (simp [*]; done)), H', ⟨by first | omega | exact Nat.le_refl _⟩, ⟨by (with_reducible repeat (first | refine blk_drewN ?_ _ | refine blk_drew ?_ | refine blk_alloc ?_ _)); exact BK101.out⟩, ⟨by (with_reducible repeat (first | refine blk_drewN ?_ _ | refine blk_drew ?_ | refine blk_alloc ?_ _)); exact BK102.out⟩, ⟨by repeat (first | (with_reducible first | exact HB.out | apply below_alloc | apply pw_below_drewN | apply below_drew1 | refine below_set ?_ GE101.out | refine below_set ?_ GE102.out) | exact HB.out)⟩⟩
  ·rw [if_neg c7] at H
   have c7b0 : (t103 == 0) = false := beq_eq_false_iff_ne.mpr c7
   have c7b1 : (t103 != 0) = true := bne_iff_ne.mpr c7
   (first | rw [c7b0] | (simp only [i64_w, i32_w]; rw [c7b0]) | skip)
   have H' := Aside0.mk H
   clear H
   have hnb54 := NB101_102.out
   have hnc54 := NB102_101.out
   have hcz55_0 : w5.cell? ⟨gb101, 0, none⟩ = some (.int .i64 a0_0) := (blk_cell BK101.out 0).trans rfl
   have hcz55_1 : w5.cell? ⟨gb101, 1, none⟩ = some (.int .u64 a0_1) := (blk_cell BK101.out 1).trans rfl
   have hcz55_2 : w5.cell? ⟨gb101, 2, none⟩ = some (.int .u64 a0_2) := (blk_cell BK101.out 2).trans rfl
   have hcz55_3 : w5.cell? ⟨gb101, 3, none⟩ = some (.int .u64 a0_3) := (blk_cell BK101.out 3).trans rfl
   have hcz55_4 : w5.cell? ⟨gb101, 4, none⟩ = some (.int .u64 a0_4) := (blk_cell BK101.out 4).trans rfl
   have hcz55_5 : w5.cell? ⟨gb101, 5, none⟩ = some (.slice A0_5 l0_5.length c0_5) := (blk_cell BK101.out 5).trans rfl
   have hcz55_6 : w5.cell? ⟨gb101, 6, none⟩ = some (.slice A0_6 l0_6.length c0_6) := (blk_cell BK101.out 6).trans rfl
   have hcz55_7 : w5.cell? ⟨gb101, 7, none⟩ = some (.slice A0_7 l0_7.length c0_7) := (blk_cell BK101.out 7).trans rfl
   have hcz55_8 : w5.cell? ⟨gb101, 8, none⟩ = some (.slice A0_8 l0_8.length c0_8) := (blk_cell BK101.out 8).trans rfl
   have hfz55_0 := blk_frozen BK101.out 0
   have hfz55_1 := blk_frozen BK101.out 1
   have hfz55_2 := blk_frozen BK101.out 2
   have hfz55_3 := blk_frozen BK101.out 3
   have hfz55_4 := blk_frozen BK101.out 4
   have hfz55_5 := blk_frozen BK101.out 5
   have hfz55_6 := blk_frozen BK101.out 6
   have hfz55_7 := blk_frozen BK101.out 7
   have hfz55_8 := blk_frozen BK101.out 8
   go_wp2_with (first | ((with_reducible refine gate_callee (f := 63) rfl ?_); refine goesL_ (some 6) rfl rfl Try.func63 (by kernel_rfl) rfl #[.agg #[.int .i64 a0_0, .int .u64 a0_1, .int .u64 a0_2, .int .u64 a0_3, .int .u64 a0_4, .slice A0_5 l0_5.length c0_5, .slice A0_6 l0_6.length c0_6, .slice A0_7 l0_7.length c0_7, .slice A0_8 l0_8.length c0_8]] rfl (by (try simp only [List.map_toArray, List.map_cons, List.map_nil]); first | done | rfl | (simp only [List.length_drop, List.length_take]; rfl)) ?_; (with_reducible refine (tidepoleref10_Check.calls k a0_0 a0_1 a0_2 a0_3 a0_4 _ _ l0_5 _ _ l0_6 _ _ l0_7 _ _ l0_8 t103 _ ?side1 ?side2 ?side3 ?side4 ?side5 ?side6 ?side7 ?side8 A6.out).mono ?_); (case side1 => repeat (first | exact (Kd.C_below HR0_5.out HB.out) | (with_reducible refine Kd.C_alloc ?_ _) | (with_reducible refine Kd.C_drewN ?_ _) | (with_reducible refine Kd.C_drew ?_))); (case side2 => exact HC0_5.out); (case side3 => repeat (first | exact (Kd.C_below HR0_6.out HB.out) | (with_reducible refine Kd.C_alloc ?_ _) | (with_reducible refine Kd.C_drewN ?_ _) | (with_reducible refine Kd.C_drew ?_))); (case side4 => exact HC0_6.out); (case side5 => repeat (first | exact (Kd.C_below HR0_7.out HB.out) | (with_reducible refine Kd.C_alloc ?_ _) | (with_reducible refine Kd.C_drewN ?_ _) | (with_reducible refine Kd.C_drew ?_))); (case side6 => exact HC0_7.out); (case side7 => repeat (first | exact (Kd.C_below HR0_8.out HB.out) | (with_reducible refine Kd.C_alloc ?_ _) | (with_reducible refine Kd.C_drewN ?_ _) | (with_reducible refine Kd.C_drew ?_))); (case side8 => exact HC0_8.out); rintro e w56 ⟨rfl, hb⟩; refine ⟨_, rfl, ?_⟩; have n0_ := Aside0.mk (blk_below (g := gb101) (o := .cells #[.int .i64 a0_0, .int .u64 a0_1, .int .u64 a0_2, .int .u64 a0_3, .int .u64 a0_4, .slice A0_5 l0_5.length c0_5, .slice A0_6 l0_6.length c0_6, .slice A0_7 l0_7.length c0_7, .slice A0_8 l0_8.length c0_8] 84 (0, 0)) (by (with_reducible repeat (first | refine blk_drewN ?_ _ | refine blk_drew ?_ | refine blk_alloc ?_ _)); exact BK101.out) hb); have n1_ := Aside0.mk (blk_below (g := gb102) (o := .cells #[.int .i64 a1_0, .int .u64 a1_1, .int .u64 a1_2, .int .u64 a1_3, .int .u64 a1_4, .slice A1_5 l1_5.length c1_5, .slice A1_6 l1_6.length c1_6, .slice A1_7 l1_7.length c1_7, .slice A1_8 l1_8.length c1_8] 84 (0, 0)) (by (with_reducible repeat (first | refine blk_drewN ?_ _ | refine blk_drew ?_ | refine blk_alloc ?_ _)); exact BK102.out) hb); have n2_ := Aside0.mk (below_step (by repeat (first | (with_reducible first | exact HB.out | apply below_alloc | apply pw_below_drewN | apply below_drew1 | refine below_set ?_ GE101.out | refine below_set ?_ GE102.out) | exact HB.out)) hb); clear BK101; clear BK102; clear HB; have BK101 := n0_; have BK102 := n1_; have HB := n2_; clear n0_ n1_ n2_; (try clear hb); (try clear hb2); (try clear hk); (try clear hi); clear A6))
   go_meet
   case rel => exact ⟨_, (true), (by first | rfl | (simp; done) | (simp [*]; done)), H', ⟨by first | omega | exact Nat.le_refl _⟩, ⟨by (with_reducible repeat (first | refine blk_drewN ?_ _ | refine blk_drew ?_ | refine blk_alloc ?_ _)); exact BK101.out⟩, ⟨by (with_reducible repeat (first | refine blk_drewN ?_ _ | refine blk_drew ?_ | refine blk_alloc ?_ _)); exact BK102.out⟩, ⟨by repeat (first | (with_reducible first | exact HB.out | apply below_alloc | apply pw_below_drewN | apply below_drew1 | refine below_set ?_ GE101.out | refine below_set ?_ GE102.out) | exact HB.out)⟩⟩
 case rest =>
  clear HC3
  try clear c1
  try clear c2
  try clear p2
  try clear c3
  try clear c4
  try clear c5
  try clear c6
  try clear c7
  try clear c7b0
  try clear c7b1
  try clear c9
  try clear c9b0
  try clear c9b1
  try clear c10
  try clear c10b0
  try clear c10b1
  try clear c11
  try clear c11b0
  try clear c11b1
  try clear c12
  try clear c12b0
  try clear c12b1
  try clear c13
  try clear c13b0
  try clear c13b1
  try clear c14
  try clear c21
  try clear c28
  try clear c35
  try clear c42
  try clear c49
  try clear c54
  try clear hcz15_0
  try clear hcz15_1
  try clear hcz15_2
  try clear hcz15_3
  try clear hcz15_4
  try clear hcz15_5
  try clear hcz15_6
  try clear hcz15_7
  try clear hcz15_8
  try clear hcz17_0
  try clear hcz17_1
  try clear hcz17_2
  try clear hcz17_3
  try clear hcz17_4
  try clear hcz17_5
  try clear hcz17_6
  try clear hcz17_7
  try clear hcz17_8
  try clear hcz19_0
  try clear hcz19_1
  try clear hcz19_2
  try clear hcz19_3
  try clear hcz19_4
  try clear hcz19_5
  try clear hcz19_6
  try clear hcz19_7
  try clear hcz19_8
  try clear hcz20_0
  try clear hcz20_1
  try clear hcz20_2
  try clear hcz20_3
  try clear hcz20_4
  try clear hcz20_5
  try clear hcz20_6
  try clear hcz20_7
  try clear hcz20_8
  try clear hcz22_0
  try clear hcz22_1
  try clear hcz22_2
  try clear hcz22_3
  try clear hcz22_4
  try clear hcz22_5
  try clear hcz22_6
  try clear hcz22_7
  try clear hcz22_8
  try clear hcz24_0
  try clear hcz24_1
  try clear hcz24_2
  try clear hcz24_3
  try clear hcz24_4
  try clear hcz24_5
  try clear hcz24_6
  try clear hcz24_7
  try clear hcz24_8
  try clear hcz26_0
  try clear hcz26_1
  try clear hcz26_2
  try clear hcz26_3
  try clear hcz26_4
  try clear hcz26_5
  try clear hcz26_6
  try clear hcz26_7
  try clear hcz26_8
  try clear hcz27_0
  try clear hcz27_1
  try clear hcz27_2
  try clear hcz27_3
  try clear hcz27_4
  try clear hcz27_5
  try clear hcz27_6
  try clear hcz27_7
  try clear hcz27_8
  try clear hcz29_0
  try clear hcz29_1
  try clear hcz29_2
  try clear hcz29_3
  try clear hcz29_4
  try clear hcz29_5
  try clear hcz29_6
  try clear hcz29_7
  try clear hcz29_8
  try clear hcz31_0
  try clear hcz31_1
  try clear hcz31_2
  try clear hcz31_3
  try clear hcz31_4
  try clear hcz31_5
  try clear hcz31_6
  try clear hcz31_7
  try clear hcz31_8
  try clear hcz33_0
  try clear hcz33_1
  try clear hcz33_2
  try clear hcz33_3
  try clear hcz33_4
  try clear hcz33_5
  try clear hcz33_6
  try clear hcz33_7
  try clear hcz33_8
  try clear hcz34_0
  try clear hcz34_1
  try clear hcz34_2
  try clear hcz34_3
  try clear hcz34_4
  try clear hcz34_5
  try clear hcz34_6
  try clear hcz34_7
  try clear hcz34_8
  try clear hcz36_0
  try clear hcz36_1
  try clear hcz36_2
  try clear hcz36_3
  try clear hcz36_4
  try clear hcz36_5
  try clear hcz36_6
  try clear hcz36_7
  try clear hcz36_8
  try clear hcz38_0
  try clear hcz38_1
  try clear hcz38_2
  try clear hcz38_3
  try clear hcz38_4
  try clear hcz38_5
  try clear hcz38_6
  try clear hcz38_7
  try clear hcz38_8
  try clear hcz40_0
  try clear hcz40_1
  try clear hcz40_2
  try clear hcz40_3
  try clear hcz40_4
  try clear hcz40_5
  try clear hcz40_6
  try clear hcz40_7
  try clear hcz40_8
  try clear hcz41_0
  try clear hcz41_1
  try clear hcz41_2
  try clear hcz41_3
  try clear hcz41_4
  try clear hcz41_5
  try clear hcz41_6
  try clear hcz41_7
  try clear hcz41_8
  try clear hcz43_0
  try clear hcz43_1
  try clear hcz43_2
  try clear hcz43_3
  try clear hcz43_4
  try clear hcz43_5
  try clear hcz43_6
  try clear hcz43_7
  try clear hcz43_8
  try clear hcz45_0
  try clear hcz45_1
  try clear hcz45_2
  try clear hcz45_3
  try clear hcz45_4
  try clear hcz45_5
  try clear hcz45_6
  try clear hcz45_7
  try clear hcz45_8
  try clear hcz47_0
  try clear hcz47_1
  try clear hcz47_2
  try clear hcz47_3
  try clear hcz47_4
  try clear hcz47_5
  try clear hcz47_6
  try clear hcz47_7
  try clear hcz47_8
  try clear hcz48_0
  try clear hcz48_1
  try clear hcz48_2
  try clear hcz48_3
  try clear hcz48_4
  try clear hcz48_5
  try clear hcz48_6
  try clear hcz48_7
  try clear hcz48_8
  try clear hcz50_0
  try clear hcz50_1
  try clear hcz50_2
  try clear hcz50_3
  try clear hcz50_4
  try clear hcz50_5
  try clear hcz50_6
  try clear hcz50_7
  try clear hcz50_8
  try clear hcz52_0
  try clear hcz52_1
  try clear hcz52_2
  try clear hcz52_3
  try clear hcz52_4
  try clear hcz52_5
  try clear hcz52_6
  try clear hcz52_7
  try clear hcz52_8
  try clear hcz55_0
  try clear hcz55_1
  try clear hcz55_2
  try clear hcz55_3
  try clear hcz55_4
  try clear hcz55_5
  try clear hcz55_6
  try clear hcz55_7
  try clear hcz55_8
  try clear hfz15_0
  try clear hfz15_1
  try clear hfz15_2
  try clear hfz15_3
  try clear hfz15_4
  try clear hfz15_5
  try clear hfz15_6
  try clear hfz15_7
  try clear hfz15_8
  try clear hfz17_0
  try clear hfz17_1
  try clear hfz17_2
  try clear hfz17_3
  try clear hfz17_4
  try clear hfz17_5
  try clear hfz17_6
  try clear hfz17_7
  try clear hfz17_8
  try clear hfz19_0
  try clear hfz19_1
  try clear hfz19_2
  try clear hfz19_3
  try clear hfz19_4
  try clear hfz19_5
  try clear hfz19_6
  try clear hfz19_7
  try clear hfz19_8
  try clear hfz20_0
  try clear hfz20_1
  try clear hfz20_2
  try clear hfz20_3
  try clear hfz20_4
  try clear hfz20_5
  try clear hfz20_6
  try clear hfz20_7
  try clear hfz20_8
  try clear hfz22_0
  try clear hfz22_1
  try clear hfz22_2
  try clear hfz22_3
  try clear hfz22_4
  try clear hfz22_5
  try clear hfz22_6
  try clear hfz22_7
  try clear hfz22_8
  try clear hfz24_0
  try clear hfz24_1
  try clear hfz24_2
  try clear hfz24_3
  try clear hfz24_4
  try clear hfz24_5
  try clear hfz24_6
  try clear hfz24_7
  try clear hfz24_8
  try clear hfz26_0
  try clear hfz26_1
  try clear hfz26_2
  try clear hfz26_3
  try clear hfz26_4
  try clear hfz26_5
  try clear hfz26_6
  try clear hfz26_7
  try clear hfz26_8
  try clear hfz27_0
  try clear hfz27_1
  try clear hfz27_2
  try clear hfz27_3
  try clear hfz27_4
  try clear hfz27_5
  try clear hfz27_6
  try clear hfz27_7
  try clear hfz27_8
  try clear hfz29_0
  try clear hfz29_1
  try clear hfz29_2
  try clear hfz29_3
  try clear hfz29_4
  try clear hfz29_5
  try clear hfz29_6
  try clear hfz29_7
  try clear hfz29_8
  try clear hfz31_0
  try clear hfz31_1
  try clear hfz31_2
  try clear hfz31_3
  try clear hfz31_4
  try clear hfz31_5
  try clear hfz31_6
  try clear hfz31_7
  try clear hfz31_8
  try clear hfz33_0
  try clear hfz33_1
  try clear hfz33_2
  try clear hfz33_3
  try clear hfz33_4
  try clear hfz33_5
  try clear hfz33_6
  try clear hfz33_7
  try clear hfz33_8
  try clear hfz34_0
  try clear hfz34_1
  try clear hfz34_2
  try clear hfz34_3
  try clear hfz34_4
  try clear hfz34_5
  try clear hfz34_6
  try clear hfz34_7
  try clear hfz34_8
  try clear hfz36_0
  try clear hfz36_1
  try clear hfz36_2
  try clear hfz36_3
  try clear hfz36_4
  try clear hfz36_5
  try clear hfz36_6
  try clear hfz36_7
  try clear hfz36_8
  try clear hfz38_0
  try clear hfz38_1
  try clear hfz38_2
  try clear hfz38_3
  try clear hfz38_4
  try clear hfz38_5
  try clear hfz38_6
  try clear hfz38_7
  try clear hfz38_8
  try clear hfz40_0
  try clear hfz40_1
  try clear hfz40_2
  try clear hfz40_3
  try clear hfz40_4
  try clear hfz40_5
  try clear hfz40_6
  try clear hfz40_7
  try clear hfz40_8
  try clear hfz41_0
  try clear hfz41_1
  try clear hfz41_2
  try clear hfz41_3
  try clear hfz41_4
  try clear hfz41_5
  try clear hfz41_6
  try clear hfz41_7
  try clear hfz41_8
  try clear hfz43_0
  try clear hfz43_1
  try clear hfz43_2
  try clear hfz43_3
  try clear hfz43_4
  try clear hfz43_5
  try clear hfz43_6
  try clear hfz43_7
  try clear hfz43_8
  try clear hfz45_0
  try clear hfz45_1
  try clear hfz45_2
  try clear hfz45_3
  try clear hfz45_4
  try clear hfz45_5
  try clear hfz45_6
  try clear hfz45_7
  try clear hfz45_8
  try clear hfz47_0
  try clear hfz47_1
  try clear hfz47_2
  try clear hfz47_3
  try clear hfz47_4
  try clear hfz47_5
  try clear hfz47_6
  try clear hfz47_7
  try clear hfz47_8
  try clear hfz48_0
  try clear hfz48_1
  try clear hfz48_2
  try clear hfz48_3
  try clear hfz48_4
  try clear hfz48_5
  try clear hfz48_6
  try clear hfz48_7
  try clear hfz48_8
  try clear hfz50_0
  try clear hfz50_1
  try clear hfz50_2
  try clear hfz50_3
  try clear hfz50_4
  try clear hfz50_5
  try clear hfz50_6
  try clear hfz50_7
  try clear hfz50_8
  try clear hfz52_0
  try clear hfz52_1
  try clear hfz52_2
  try clear hfz52_3
  try clear hfz52_4
  try clear hfz52_5
  try clear hfz52_6
  try clear hfz52_7
  try clear hfz52_8
  try clear hfz55_0
  try clear hfz55_1
  try clear hfz55_2
  try clear hfz55_3
  try clear hfz55_4
  try clear hfz55_5
  try clear hfz55_6
  try clear hfz55_7
  try clear hfz55_8
  obtain ⟨kq, x47_2, rfl, HA, HJ2, BK101, BK102, HB⟩ := hcut
  cases kq with
  | zero => exact absurd HA.out (by simp [tidepoleref10_Equal.j0])
  | succ kj2 =>
   have H := HA.out
   clear HA
   simp only [tidepoleref10_Equal.j0] at H
   by_cases c57 : x47_2 = true
   ·subst c57
    have H1 : (some false) = some r := by rw [if_pos rfl] at H; exact H
    clear H
    have H := H1
    clear H1
    obtain rfl := Option.some.inj H
    go_wp2
    go_ret
    exact ⟨by first | rfl | (simp [errW_none, errW_some] <;> rfl) | (simp [*, errW_none, errW_some] <;> rfl), by repeat (first | (with_reducible first | exact HB.out | apply below_alloc | apply pw_below_drewN | apply below_drew1 | refine below_set ?_ GE101.out | refine below_set ?_ GE102.out) | exact HB.out)⟩
   ·replace c57 := Bool.eq_false_iff.mpr c57
    subst c57
    have H1 : ((tidepoleref06_Places.f kj2 l0_5).bind fun t105 => ((tidepoleref06_Places.f kj2 l1_5).bind fun t108 => ((tidepoleref10_Same.f kj2 t105 l0_7 t108 l1_7).bind fun t111 => (if t111 = true then ((tidepoleref06_Places.f kj2 l0_6).bind fun t112 => ((tidepoleref06_Places.f kj2 l1_6).bind fun t115 => ((tidepoleref10_Same.f kj2 t112 l0_8 t115 l1_8).bind fun t118 => (some t118)))) else (some false))))) = some r := by rw [if_neg (show ¬ (false = true) by decide)] at H; exact H
    clear H
    have H := H1
    clear H1
    replace H := Option.bind_eq_some_iff.mp H
    obtain ⟨t105, A580, H⟩ := H
    replace H : ((tidepoleref06_Places.f kj2 l1_5).bind fun t108 => ((tidepoleref10_Same.f kj2 t105 l0_7 t108 l1_7).bind fun t111 => (if t111 = true then ((tidepoleref06_Places.f kj2 l0_6).bind fun t112 => ((tidepoleref06_Places.f kj2 l1_6).bind fun t115 => ((tidepoleref10_Same.f kj2 t112 l0_8 t115 l1_8).bind fun t118 => (some t118)))) else (some false)))) = some r := H
    have A58 := Aside0.mk A580
    clear A580
    replace H := Option.bind_eq_some_iff.mp H
    obtain ⟨t108, A590, H⟩ := H
    replace H : ((tidepoleref10_Same.f kj2 t105 l0_7 t108 l1_7).bind fun t111 => (if t111 = true then ((tidepoleref06_Places.f kj2 l0_6).bind fun t112 => ((tidepoleref06_Places.f kj2 l1_6).bind fun t115 => ((tidepoleref10_Same.f kj2 t112 l0_8 t115 l1_8).bind fun t118 => (some t118)))) else (some false))) = some r := H
    have A59 := Aside0.mk A590
    clear A590
    replace H := Option.bind_eq_some_iff.mp H
    obtain ⟨t111, A600, H⟩ := H
    replace H : (if t111 = true then ((tidepoleref06_Places.f kj2 l0_6).bind fun t112 => ((tidepoleref06_Places.f kj2 l1_6).bind fun t115 => ((tidepoleref10_Same.f kj2 t112 l0_8 t115 l1_8).bind fun t118 => (some t118)))) else (some false)) = some r := H
    have A60 := Aside0.mk A600
    clear A600
    by_cases c61 : t111 = true
    ·subst c61
     have H1 : ((tidepoleref06_Places.f kj2 l0_6).bind fun t112 => ((tidepoleref06_Places.f kj2 l1_6).bind fun t115 => ((tidepoleref10_Same.f kj2 t112 l0_8 t115 l1_8).bind fun t118 => (some t118)))) = some r := by rw [if_pos rfl] at H; exact H
     clear H
     have H := H1
     clear H1
     replace H := Option.bind_eq_some_iff.mp H
     obtain ⟨t112, A620, H⟩ := H
     replace H : ((tidepoleref06_Places.f kj2 l1_6).bind fun t115 => ((tidepoleref10_Same.f kj2 t112 l0_8 t115 l1_8).bind fun t118 => (some t118))) = some r := H
     have A62 := Aside0.mk A620
     clear A620
     replace H := Option.bind_eq_some_iff.mp H
     obtain ⟨t115, A630, H⟩ := H
     replace H : ((tidepoleref10_Same.f kj2 t112 l0_8 t115 l1_8).bind fun t118 => (some t118)) = some r := H
     have A63 := Aside0.mk A630
     clear A630
     replace H := Option.bind_eq_some_iff.mp H
     obtain ⟨t118, A640, H⟩ := H
     replace H : (some t118) = some r := H
     have A64 := Aside0.mk A640
     clear A640
     obtain rfl := Option.some.inj H
     try go_wp2
     have n0_ := Aside0.mk (blk_drew BK101.out)
     have n1_ := Aside0.mk (blk_drew BK102.out)
     have n2_ := Aside0.mk (below_drew1 HB.out)
     clear BK101
     clear BK102
     clear HB
     have BK101 := n0_
     have BK102 := n1_
     have HB := n2_
     clear n0_ n1_ n2_
     refine start_ (n := 12) (S := fun w' => w'.cell? ⟨gb101, 0, none⟩ = some (.int .i64 a0_0) ∧ w'.cell? ⟨gb101, 1, none⟩ = some (.int .u64 a0_1) ∧ w'.cell? ⟨gb101, 2, none⟩ = some (.int .u64 a0_2) ∧ w'.cell? ⟨gb101, 3, none⟩ = some (.int .u64 a0_3) ∧ w'.cell? ⟨gb101, 4, none⟩ = some (.int .u64 a0_4) ∧ w'.cell? ⟨gb101, 5, none⟩ = some (.slice A0_5 l0_5.length c0_5) ∧ w'.cell? ⟨gb101, 6, none⟩ = some (.slice A0_6 l0_6.length c0_6) ∧ w'.cell? ⟨gb101, 7, none⟩ = some (.slice A0_7 l0_7.length c0_7) ∧ w'.cell? ⟨gb101, 8, none⟩ = some (.slice A0_8 l0_8.length c0_8) ∧ w'.cell? ⟨gb102, 0, none⟩ = some (.int .i64 a1_0) ∧ w'.cell? ⟨gb102, 1, none⟩ = some (.int .u64 a1_1) ∧ w'.cell? ⟨gb102, 2, none⟩ = some (.int .u64 a1_2) ∧ w'.cell? ⟨gb102, 3, none⟩ = some (.int .u64 a1_3) ∧ w'.cell? ⟨gb102, 4, none⟩ = some (.int .u64 a1_4) ∧ w'.cell? ⟨gb102, 5, none⟩ = some (.slice A1_5 l1_5.length c1_5) ∧ w'.cell? ⟨gb102, 6, none⟩ = some (.slice A1_6 l1_6.length c1_6) ∧ w'.cell? ⟨gb102, 7, none⟩ = some (.slice A1_7 l1_7.length c1_7) ∧ w'.cell? ⟨gb102, 8, none⟩ = some (.slice A1_8 l1_8.length c1_8)) (ds := []) #[false, false, false, false, false, false, false, false, false, false, false, false] (by kernel_rfl) rfl rfl ⟨(blk_cell BK101.out 0).trans rfl, (blk_cell BK101.out 1).trans rfl, (blk_cell BK101.out 2).trans rfl, (blk_cell BK101.out 3).trans rfl, (blk_cell BK101.out 4).trans rfl, (blk_cell BK101.out 5).trans rfl, (blk_cell BK101.out 6).trans rfl, (blk_cell BK101.out 7).trans rfl, (blk_cell BK101.out 8).trans rfl, (blk_cell BK102.out 0).trans rfl, (blk_cell BK102.out 1).trans rfl, (blk_cell BK102.out 2).trans rfl, (blk_cell BK102.out 3).trans rfl, (blk_cell BK102.out 4).trans rfl, (blk_cell BK102.out 5).trans rfl, (blk_cell BK102.out 6).trans rfl, (blk_cell BK102.out 7).trans rfl, (blk_cell BK102.out 8).trans rfl⟩ (fun hHeld => ?_); refine with_tabW tidepoleref10_Equal.tab3 tidepoleref10_Equal.bits3 (fun HT_ HW_ => ?_)
     generalize wc.drew = w65 at BK101 BK102 HB hHeld ⊢
     refine pure_ (i := 0) (N := some 48) (v := ?_) (a' := ?_) #[true, false, false, false, false, false, false, false, false, false, false, false] rfl rfl (any_of HT_.out (by kernel_rfl)) (fun _ _ _ h => h) (Or.inl ⟨by rfl, ?_⟩) ?_ ?_
     rotate_left
     ·intro w'
      go_simp
      with_reducible rfl
     rotate_left
     ·simp only [Act.put, List.setIfInBounds_toArray, List.set_cons_zero, List.set_cons_succ, i64_w, i32_w]
      rfl
     refine pure_ (i := 3) (N := some 51) (v := ?_) (a' := ?_) #[true, false, false, true, false, false, false, false, false, false, false, false] rfl rfl (any_of HT_.out (by kernel_rfl)) (fun _ _ _ h => h) (Or.inl ⟨by rfl, ?_⟩) ?_ ?_
     rotate_left
     ·intro w'
      go_simp
      with_reducible rfl
     rotate_left
     ·simp only [Act.put, List.setIfInBounds_toArray, List.set_cons_zero, List.set_cons_succ, i64_w, i32_w]
      rfl
     refine pure_ (i := 5) (N := some 53) (v := ?_) (a' := ?_) #[true, false, false, true, false, true, false, false, false, false, false, false] rfl rfl (any_of HT_.out (by kernel_rfl)) (fun _ _ _ h => h) (Or.inl ⟨by rfl, ?_⟩) ?_ ?_
     rotate_left
     ·intro w'
      go_simp
      with_reducible rfl
     rotate_left
     ·simp only [Act.put, List.setIfInBounds_toArray, List.set_cons_zero, List.set_cons_succ, i64_w, i32_w]
      rfl
     refine pure_ (i := 8) (N := some 56) (v := ?_) (a' := ?_) #[true, false, false, true, false, true, false, false, true, false, false, false] rfl rfl (any_of HT_.out (by kernel_rfl)) (fun _ _ _ h => h) (Or.inl ⟨by rfl, ?_⟩) ?_ ?_
     rotate_left
     ·intro w'
      go_simp
      with_reducible rfl
     rotate_left
     ·simp only [Act.put, List.setIfInBounds_toArray, List.set_cons_zero, List.set_cons_succ, i64_w, i32_w]
      rfl
     refine take_ (i := 1) (N := some 49) (v := ?_) (a' := ?_) #[true, true, false, true, false, true, false, false, true, false, false, false] rfl rfl (take_ofW HT_.out HW_.out (by kernel_rfl)) (fun _ _ _ h => h) (Or.inl ⟨by rfl, ?_⟩) hHeld ?_ ?_
     rotate_left
     ·rintro w' ⟨s0, s1, s2, s3, s4, s5, s6, s7, s8, s9, s10, s11, s12, s13, s14, s15, s16, s17⟩
      go_simp
      with_reducible rfl
     rotate_left
     ·simp only [Act.put, List.setIfInBounds_toArray, List.set_cons_zero, List.set_cons_succ, i64_w, i32_w]
      rfl
     refine take_ (i := 4) (N := some 52) (v := ?_) (a' := ?_) #[true, true, false, true, true, true, false, false, true, false, false, false] rfl rfl (take_ofW HT_.out HW_.out (by kernel_rfl)) (fun _ _ _ h => h) (Or.inl ⟨by rfl, ?_⟩) hHeld ?_ ?_
     rotate_left
     ·rintro w' ⟨s0, s1, s2, s3, s4, s5, s6, s7, s8, s9, s10, s11, s12, s13, s14, s15, s16, s17⟩
      go_simp
      with_reducible rfl
     rotate_left
     ·simp only [Act.put, List.setIfInBounds_toArray, List.set_cons_zero, List.set_cons_succ, i64_w, i32_w]
      rfl
     refine take_ (i := 6) (N := some 54) (v := ?_) (a' := ?_) #[true, true, false, true, true, true, true, false, true, false, false, false] rfl rfl (take_ofW HT_.out HW_.out (by kernel_rfl)) (fun _ _ _ h => h) (Or.inl ⟨by rfl, ?_⟩) hHeld ?_ ?_
     rotate_left
     ·rintro w' ⟨s0, s1, s2, s3, s4, s5, s6, s7, s8, s9, s10, s11, s12, s13, s14, s15, s16, s17⟩
      go_simp
      with_reducible rfl
     rotate_left
     ·simp only [Act.put, List.setIfInBounds_toArray, List.set_cons_zero, List.set_cons_succ, i64_w, i32_w]
      rfl
     refine take_ (i := 9) (N := some 57) (v := ?_) (a' := ?_) #[true, true, false, true, true, true, true, false, true, true, false, false] rfl rfl (take_ofW HT_.out HW_.out (by kernel_rfl)) (fun _ _ _ h => h) (Or.inl ⟨by rfl, ?_⟩) hHeld ?_ ?_
     rotate_left
     ·rintro w' ⟨s0, s1, s2, s3, s4, s5, s6, s7, s8, s9, s10, s11, s12, s13, s14, s15, s16, s17⟩
      go_simp
      with_reducible rfl
     rotate_left
     ·simp only [Act.put, List.setIfInBounds_toArray, List.set_cons_zero, List.set_cons_succ, i64_w, i32_w]
      rfl
     refine one_ (i := 2) (N := some 50) #[true, true, true, true, true, true, true, false, true, true, false, false] rfl rfl (one_of HT_.out (by kernel_rfl)) (by decide) (fun K hK => ?_)
     refine goes_ Try.func34 (by kernel_rfl) rfl #[.slice A0_5 l0_5.length c0_5] (by rfl) rfl rfl (by (try simp only [List.map_toArray, List.map_cons, List.map_nil]); first | done | rfl | (simp only [List.length_drop, List.length_take]; rfl)) ?_
     with_reducible refine (tidepoleref06_Places.calls kj2 _ _ l0_5 t105 _ ?side1 ?side2 A58.out).mono ?_
     (case side1 => repeat (first | exact (Kd.C_below HR0_5.out HB.out) | (with_reducible refine Kd.C_alloc ?_ _) | (with_reducible refine Kd.C_drewN ?_ _) | (with_reducible refine Kd.C_drew ?_)))
     (case side2 => exact HC0_5.out)
     rintro e w66 ⟨v106, rfl, ho0, hb⟩
     refine ⟨_, rfl, ?_⟩
     have n0_ := Aside0.mk (Kd.R_lower ho0 (below_size (by repeat (first | (with_reducible first | exact HB.out | apply below_alloc | apply pw_below_drewN | apply below_drew1 | refine below_set ?_ GE101.out | refine below_set ?_ GE102.out) | exact HB.out))))
     have n1_ := Aside0.mk (blk_below (g := gb101) (o := .cells #[.int .i64 a0_0, .int .u64 a0_1, .int .u64 a0_2, .int .u64 a0_3, .int .u64 a0_4, .slice A0_5 l0_5.length c0_5, .slice A0_6 l0_6.length c0_6, .slice A0_7 l0_7.length c0_7, .slice A0_8 l0_8.length c0_8] 84 (0, 0)) (by (with_reducible repeat (first | refine blk_drewN ?_ _ | refine blk_drew ?_ | refine blk_alloc ?_ _)); exact BK101.out) hb)
     have n2_ := Aside0.mk (blk_below (g := gb102) (o := .cells #[.int .i64 a1_0, .int .u64 a1_1, .int .u64 a1_2, .int .u64 a1_3, .int .u64 a1_4, .slice A1_5 l1_5.length c1_5, .slice A1_6 l1_6.length c1_6, .slice A1_7 l1_7.length c1_7, .slice A1_8 l1_8.length c1_8] 84 (0, 0)) (by (with_reducible repeat (first | refine blk_drewN ?_ _ | refine blk_drew ?_ | refine blk_alloc ?_ _)); exact BK102.out) hb)
     have n3_ := Aside0.mk (below_step (by repeat (first | (with_reducible first | exact HB.out | apply below_alloc | apply pw_below_drewN | apply below_drew1 | refine below_set ?_ GE101.out | refine below_set ?_ GE102.out) | exact HB.out)) hb)
     clear BK101
     clear BK102
     clear HB
     have HO107 := n0_
     have BK101 := n1_
     have BK102 := n2_
     have HB := n3_
     clear n0_ n1_ n2_ n3_
     (try clear hb)
     (try clear hb2)
     (try clear hk)
     (try clear hi)
     (try clear ho0)
     refine hK.out _ _ ⟨(blk_cell BK101.out 0).trans rfl, (blk_cell BK101.out 1).trans rfl, (blk_cell BK101.out 2).trans rfl, (blk_cell BK101.out 3).trans rfl, (blk_cell BK101.out 4).trans rfl, (blk_cell BK101.out 5).trans rfl, (blk_cell BK101.out 6).trans rfl, (blk_cell BK101.out 7).trans rfl, (blk_cell BK101.out 8).trans rfl, (blk_cell BK102.out 0).trans rfl, (blk_cell BK102.out 1).trans rfl, (blk_cell BK102.out 2).trans rfl, (blk_cell BK102.out 3).trans rfl, (blk_cell BK102.out 4).trans rfl, (blk_cell BK102.out 5).trans rfl, (blk_cell BK102.out 6).trans rfl, (blk_cell BK102.out 7).trans rfl, (blk_cell BK102.out 8).trans rfl⟩ (fun hHeld => ?_)
     clear hK K
     refine norm_ (a' := ?_) ?_ ?_
     rotate_left
     ·show Act.put _ (some 50) _ = _
      simp only [Act.put, List.setIfInBounds_toArray, List.set_cons_zero, List.set_cons_succ, i64_w, i32_w]
      rfl
     refine one_ (i := 7) (N := some 55) #[true, true, true, true, true, true, true, true, true, true, false, false] rfl rfl (one_of HT_.out (by kernel_rfl)) (by decide) (fun K hK => ?_)
     refine goes_ Try.func34 (by kernel_rfl) rfl #[.slice A1_5 l1_5.length c1_5] (by rfl) rfl rfl (by (try simp only [List.map_toArray, List.map_cons, List.map_nil]); first | done | rfl | (simp only [List.length_drop, List.length_take]; rfl)) ?_
     with_reducible refine (tidepoleref06_Places.calls kj2 _ _ l1_5 t108 _ ?side1 ?side2 A59.out).mono ?_
     (case side1 => repeat (first | exact (Kd.C_below HR1_5.out HB.out) | (with_reducible refine Kd.C_alloc ?_ _) | (with_reducible refine Kd.C_drewN ?_ _) | (with_reducible refine Kd.C_drew ?_)))
     (case side2 => exact HC1_5.out)
     rintro e w67 ⟨v109, rfl, ho0, hb⟩
     refine ⟨_, rfl, ?_⟩
     have n0_ := Aside0.mk (Kd.R_elder' (by (with_reducible repeat (first | apply Kd.R_alloc | apply Kd.R_drewN | apply Kd.R_drew)); exact HO107.out) (Kd.R_base ho0) hb)
     have n1_ := Aside0.mk (Kd.R_lower (Kd.R_new' ho0 (Kd.R_lt (by (with_reducible repeat (first | apply Kd.R_alloc | apply Kd.R_drewN | apply Kd.R_drew)); exact HO107.out))) (below_size (by repeat (first | (with_reducible first | exact HB.out | apply below_alloc | apply pw_below_drewN | apply below_drew1 | refine below_set ?_ GE101.out | refine below_set ?_ GE102.out) | exact HB.out))))
     have n2_ := Aside0.mk (blk_below (g := gb101) (o := .cells #[.int .i64 a0_0, .int .u64 a0_1, .int .u64 a0_2, .int .u64 a0_3, .int .u64 a0_4, .slice A0_5 l0_5.length c0_5, .slice A0_6 l0_6.length c0_6, .slice A0_7 l0_7.length c0_7, .slice A0_8 l0_8.length c0_8] 84 (0, 0)) (by (with_reducible repeat (first | refine blk_drewN ?_ _ | refine blk_drew ?_ | refine blk_alloc ?_ _)); exact BK101.out) hb)
     have n3_ := Aside0.mk (blk_below (g := gb102) (o := .cells #[.int .i64 a1_0, .int .u64 a1_1, .int .u64 a1_2, .int .u64 a1_3, .int .u64 a1_4, .slice A1_5 l1_5.length c1_5, .slice A1_6 l1_6.length c1_6, .slice A1_7 l1_7.length c1_7, .slice A1_8 l1_8.length c1_8] 84 (0, 0)) (by (with_reducible repeat (first | refine blk_drewN ?_ _ | refine blk_drew ?_ | refine blk_alloc ?_ _)); exact BK102.out) hb)
     have n4_ := Aside0.mk (below_step (by repeat (first | (with_reducible first | exact HB.out | apply below_alloc | apply pw_below_drewN | apply below_drew1 | refine below_set ?_ GE101.out | refine below_set ?_ GE102.out) | exact HB.out)) hb)
     clear HO107
     clear BK101
     clear BK102
     clear HB
     have HO107 := n0_
     have HO110 := n1_
     have BK101 := n2_
     have BK102 := n3_
     have HB := n4_
     clear n0_ n1_ n2_ n3_ n4_
     (try clear hb)
     (try clear hb2)
     (try clear hk)
     (try clear hi)
     (try clear ho0)
     obtain ⟨Ao68, co68, eo68⟩ := Kd.R_slice HO107.out
     (first | subst eo68 | (injection eo68 with f1_ f2_ f3_; have f4_ := f1_.symm; have f5_ := f3_.symm; clear f1_ f2_ f3_; subst f4_; subst f5_))
     obtain ⟨Ao69, co69, eo69⟩ := Kd.R_slice HO110.out
     (first | subst eo69 | (injection eo69 with f1_ f2_ f3_; have f4_ := f1_.symm; have f5_ := f3_.symm; clear f1_ f2_ f3_; subst f4_; subst f5_))
     refine hK.out _ _ ⟨(blk_cell BK101.out 0).trans rfl, (blk_cell BK101.out 1).trans rfl, (blk_cell BK101.out 2).trans rfl, (blk_cell BK101.out 3).trans rfl, (blk_cell BK101.out 4).trans rfl, (blk_cell BK101.out 5).trans rfl, (blk_cell BK101.out 6).trans rfl, (blk_cell BK101.out 7).trans rfl, (blk_cell BK101.out 8).trans rfl, (blk_cell BK102.out 0).trans rfl, (blk_cell BK102.out 1).trans rfl, (blk_cell BK102.out 2).trans rfl, (blk_cell BK102.out 3).trans rfl, (blk_cell BK102.out 4).trans rfl, (blk_cell BK102.out 5).trans rfl, (blk_cell BK102.out 6).trans rfl, (blk_cell BK102.out 7).trans rfl, (blk_cell BK102.out 8).trans rfl⟩ (fun hHeld => ?_)
     clear hK K
     refine norm_ (a' := ?_) ?_ ?_
     rotate_left
     ·show Act.put _ (some 55) _ = _
      simp only [Act.put, List.setIfInBounds_toArray, List.set_cons_zero, List.set_cons_succ, i64_w, i32_w]
      rfl
     refine one_ (i := 10) (N := some 58) #[true, true, true, true, true, true, true, true, true, true, true, false] rfl rfl (one_of HT_.out (by kernel_rfl)) (by decide) (fun K hK => ?_)
     refine goes_ Try.func163 (by kernel_rfl) rfl #[.slice Ao68 t105.length co68, .slice A0_7 l0_7.length c0_7, .slice Ao69 t108.length co69, .slice A1_7 l1_7.length c1_7] (by rfl) rfl rfl (by (try simp only [List.map_toArray, List.map_cons, List.map_nil]); first | done | rfl | (simp only [List.length_drop, List.length_take]; rfl)) ?_
     with_reducible refine (tidepoleref10_Same.calls kj2 _ _ t105 _ _ l0_7 _ _ t108 _ _ l1_7 true _ ?side1 ?side2 ?side3 ?side4 ?side5 ?side6 ?side7 ?side8 A60.out).mono ?_
     (case side1 => repeat (first | exact (Kd.R_reads' HO107.out).2.2 | (with_reducible refine Kd.C_alloc ?_ _) | (with_reducible refine Kd.C_drewN ?_ _) | (with_reducible refine Kd.C_drew ?_)))
     (case side2 => exact (Kd.R_reads' HO107.out).2.1)
     (case side3 => repeat (first | exact (Kd.C_below HR0_7.out HB.out) | (with_reducible refine Kd.C_alloc ?_ _) | (with_reducible refine Kd.C_drewN ?_ _) | (with_reducible refine Kd.C_drew ?_)))
     (case side4 => exact HC0_7.out)
     (case side5 => repeat (first | exact (Kd.R_reads' HO110.out).2.2 | (with_reducible refine Kd.C_alloc ?_ _) | (with_reducible refine Kd.C_drewN ?_ _) | (with_reducible refine Kd.C_drew ?_)))
     (case side6 => exact (Kd.R_reads' HO110.out).2.1)
     (case side7 => repeat (first | exact (Kd.C_below HR1_7.out HB.out) | (with_reducible refine Kd.C_alloc ?_ _) | (with_reducible refine Kd.C_drewN ?_ _) | (with_reducible refine Kd.C_drew ?_)))
     (case side8 => exact HC1_7.out)
     rintro e w' ⟨rfl, ⟨nd, rfl⟩⟩
     refine ⟨_, rfl, ?_⟩
     refine hK.out _ _ ⟨(blk_cell BK101.out 0).trans rfl, (blk_cell BK101.out 1).trans rfl, (blk_cell BK101.out 2).trans rfl, (blk_cell BK101.out 3).trans rfl, (blk_cell BK101.out 4).trans rfl, (blk_cell BK101.out 5).trans rfl, (blk_cell BK101.out 6).trans rfl, (blk_cell BK101.out 7).trans rfl, (blk_cell BK101.out 8).trans rfl, (blk_cell BK102.out 0).trans rfl, (blk_cell BK102.out 1).trans rfl, (blk_cell BK102.out 2).trans rfl, (blk_cell BK102.out 3).trans rfl, (blk_cell BK102.out 4).trans rfl, (blk_cell BK102.out 5).trans rfl, (blk_cell BK102.out 6).trans rfl, (blk_cell BK102.out 7).trans rfl, (blk_cell BK102.out 8).trans rfl⟩ (fun hHeld => ?_)
     clear hK K
     refine norm_ (a' := ?_) ?_ ?_
     rotate_left
     ·show Act.put _ (some 58) _ = _
      simp only [Act.put, List.setIfInBounds_toArray, List.set_cons_zero, List.set_cons_succ, i64_w, i32_w]
      rfl
     refine pure_ (i := 11) (N := some 59) (v := ?_) (a' := ?_) #[true, true, true, true, true, true, true, true, true, true, true, true] rfl rfl (any_of HT_.out (by kernel_rfl)) (fun _ _ _ h => h) (Or.inl ⟨by rfl, ?_⟩) ?_ ?_
     rotate_left
     ·intro w'
      go_simp
      with_reducible rfl
     rotate_left
     ·simp only [Act.put, List.setIfInBounds_toArray, List.set_cons_zero, List.set_cons_succ, i64_w, i32_w]
      rfl
     refine done_ (done_of HT_.out (by kernel_rfl)) ?_
     try go_wp2
     (try (rw [drewN_self w67]; generalize hq_ : World.drewN w67 _ = w67; have n0_ : Aside0 (Kd.R (Kd.int .i64) 3 w67 w.heap.size (fun k_ => some k_ ≠ (.slice Ao69 t108.length co69 : Value).ownBlock) (.slice Ao68 t105.length co68) t105) := ⟨by rw [← hq_]; exact (by (with_reducible repeat (first | apply Kd.R_alloc | apply Kd.R_drewN | apply Kd.R_drew)); exact Kd.R_mono HO107.out (fun _ hk => hk.2))⟩; have n1_ : Aside0 (Kd.R (Kd.int .i64) 3 w67 w.heap.size (fun k_ => some k_ ≠ (.slice Ao68 t105.length co68 : Value).ownBlock) (.slice Ao69 t108.length co69) t108) := ⟨by rw [← hq_]; exact (by (with_reducible repeat (first | apply Kd.R_alloc | apply Kd.R_drewN | apply Kd.R_drew)); exact Kd.R_mono HO110.out (fun _ hk => hk.2))⟩; have n2_ : Aside0 (w67.heap[gb101]? = some (.cells #[.int .i64 a0_0, .int .u64 a0_1, .int .u64 a0_2, .int .u64 a0_3, .int .u64 a0_4, .slice A0_5 l0_5.length c0_5, .slice A0_6 l0_6.length c0_6, .slice A0_7 l0_7.length c0_7, .slice A0_8 l0_8.length c0_8] 84 (0, 0))) := ⟨by rw [← hq_]; exact (by (with_reducible repeat (first | refine blk_drewN ?_ _ | refine blk_drew ?_ | refine blk_alloc ?_ _)); exact BK101.out)⟩; have n3_ : Aside0 (w67.heap[gb102]? = some (.cells #[.int .i64 a1_0, .int .u64 a1_1, .int .u64 a1_2, .int .u64 a1_3, .int .u64 a1_4, .slice A1_5 l1_5.length c1_5, .slice A1_6 l1_6.length c1_6, .slice A1_7 l1_7.length c1_7, .slice A1_8 l1_8.length c1_8] 84 (0, 0))) := ⟨by rw [← hq_]; exact (by (with_reducible repeat (first | refine blk_drewN ?_ _ | refine blk_drew ?_ | refine blk_alloc ?_ _)); exact BK102.out)⟩; have n4_ : Aside0 (Below w.heap.size w w67) := ⟨by rw [← hq_]; exact (by repeat (first | (with_reducible first | exact HB.out | apply below_alloc | apply pw_below_drewN | apply below_drew1 | refine below_set ?_ GE101.out | refine below_set ?_ GE102.out) | exact HB.out))⟩; clear HO107 HO110 BK101 BK102 HB hq_; have HO107 := n0_; have HO110 := n1_; have BK101 := n2_; have BK102 := n3_; have HB := n4_; clear n0_ n1_ n2_ n3_ n4_))
     have n0_ := Aside0.mk (Kd.R_drew HO107.out)
     have n1_ := Aside0.mk (Kd.R_drew HO110.out)
     have n2_ := Aside0.mk (blk_drew BK101.out)
     have n3_ := Aside0.mk (blk_drew BK102.out)
     have n4_ := Aside0.mk (below_drew1 HB.out)
     clear HO107
     clear HO110
     clear BK101
     clear BK102
     clear HB
     have HO107 := n0_
     have HO110 := n1_
     have BK101 := n2_
     have BK102 := n3_
     have HB := n4_
     clear n0_ n1_ n2_ n3_ n4_
     refine start_ (n := 12) (S := fun w' => w'.cell? ⟨gb101, 0, none⟩ = some (.int .i64 a0_0) ∧ w'.cell? ⟨gb101, 1, none⟩ = some (.int .u64 a0_1) ∧ w'.cell? ⟨gb101, 2, none⟩ = some (.int .u64 a0_2) ∧ w'.cell? ⟨gb101, 3, none⟩ = some (.int .u64 a0_3) ∧ w'.cell? ⟨gb101, 4, none⟩ = some (.int .u64 a0_4) ∧ w'.cell? ⟨gb101, 5, none⟩ = some (.slice A0_5 l0_5.length c0_5) ∧ w'.cell? ⟨gb101, 6, none⟩ = some (.slice A0_6 l0_6.length c0_6) ∧ w'.cell? ⟨gb101, 7, none⟩ = some (.slice A0_7 l0_7.length c0_7) ∧ w'.cell? ⟨gb101, 8, none⟩ = some (.slice A0_8 l0_8.length c0_8) ∧ w'.cell? ⟨gb102, 0, none⟩ = some (.int .i64 a1_0) ∧ w'.cell? ⟨gb102, 1, none⟩ = some (.int .u64 a1_1) ∧ w'.cell? ⟨gb102, 2, none⟩ = some (.int .u64 a1_2) ∧ w'.cell? ⟨gb102, 3, none⟩ = some (.int .u64 a1_3) ∧ w'.cell? ⟨gb102, 4, none⟩ = some (.int .u64 a1_4) ∧ w'.cell? ⟨gb102, 5, none⟩ = some (.slice A1_5 l1_5.length c1_5) ∧ w'.cell? ⟨gb102, 6, none⟩ = some (.slice A1_6 l1_6.length c1_6) ∧ w'.cell? ⟨gb102, 7, none⟩ = some (.slice A1_7 l1_7.length c1_7) ∧ w'.cell? ⟨gb102, 8, none⟩ = some (.slice A1_8 l1_8.length c1_8)) (ds := []) #[false, false, false, false, false, false, false, false, false, false, false, false] (by kernel_rfl) rfl rfl ⟨(blk_cell BK101.out 0).trans rfl, (blk_cell BK101.out 1).trans rfl, (blk_cell BK101.out 2).trans rfl, (blk_cell BK101.out 3).trans rfl, (blk_cell BK101.out 4).trans rfl, (blk_cell BK101.out 5).trans rfl, (blk_cell BK101.out 6).trans rfl, (blk_cell BK101.out 7).trans rfl, (blk_cell BK101.out 8).trans rfl, (blk_cell BK102.out 0).trans rfl, (blk_cell BK102.out 1).trans rfl, (blk_cell BK102.out 2).trans rfl, (blk_cell BK102.out 3).trans rfl, (blk_cell BK102.out 4).trans rfl, (blk_cell BK102.out 5).trans rfl, (blk_cell BK102.out 6).trans rfl, (blk_cell BK102.out 7).trans rfl, (blk_cell BK102.out 8).trans rfl⟩ (fun hHeld => ?_); refine with_tabW tidepoleref10_Equal.tab5 tidepoleref10_Equal.bits5 (fun HT_ HW_ => ?_)
     generalize w67.drew = w70 at HO107 HO110 BK101 BK102 HB hHeld ⊢
     refine pure_ (i := 0) (N := some 60) (v := ?_) (a' := ?_) #[true, false, false, false, false, false, false, false, false, false, false, false] rfl rfl (any_of HT_.out (by kernel_rfl)) (fun _ _ _ h => h) (Or.inl ⟨by rfl, ?_⟩) ?_ ?_
     rotate_left
     ·intro w'
      go_simp
      with_reducible rfl
     rotate_left
     ·simp only [Act.put, List.setIfInBounds_toArray, List.set_cons_zero, List.set_cons_succ, i64_w, i32_w]
      rfl
     refine pure_ (i := 3) (N := some 63) (v := ?_) (a' := ?_) #[true, false, false, true, false, false, false, false, false, false, false, false] rfl rfl (any_of HT_.out (by kernel_rfl)) (fun _ _ _ h => h) (Or.inl ⟨by rfl, ?_⟩) ?_ ?_
     rotate_left
     ·intro w'
      go_simp
      with_reducible rfl
     rotate_left
     ·simp only [Act.put, List.setIfInBounds_toArray, List.set_cons_zero, List.set_cons_succ, i64_w, i32_w]
      rfl
     refine pure_ (i := 5) (N := some 65) (v := ?_) (a' := ?_) #[true, false, false, true, false, true, false, false, false, false, false, false] rfl rfl (any_of HT_.out (by kernel_rfl)) (fun _ _ _ h => h) (Or.inl ⟨by rfl, ?_⟩) ?_ ?_
     rotate_left
     ·intro w'
      go_simp
      with_reducible rfl
     rotate_left
     ·simp only [Act.put, List.setIfInBounds_toArray, List.set_cons_zero, List.set_cons_succ, i64_w, i32_w]
      rfl
     refine pure_ (i := 8) (N := some 68) (v := ?_) (a' := ?_) #[true, false, false, true, false, true, false, false, true, false, false, false] rfl rfl (any_of HT_.out (by kernel_rfl)) (fun _ _ _ h => h) (Or.inl ⟨by rfl, ?_⟩) ?_ ?_
     rotate_left
     ·intro w'
      go_simp
      with_reducible rfl
     rotate_left
     ·simp only [Act.put, List.setIfInBounds_toArray, List.set_cons_zero, List.set_cons_succ, i64_w, i32_w]
      rfl
     refine take_ (i := 1) (N := some 61) (v := ?_) (a' := ?_) #[true, true, false, true, false, true, false, false, true, false, false, false] rfl rfl (take_ofW HT_.out HW_.out (by kernel_rfl)) (fun _ _ _ h => h) (Or.inl ⟨by rfl, ?_⟩) hHeld ?_ ?_
     rotate_left
     ·rintro w' ⟨s0, s1, s2, s3, s4, s5, s6, s7, s8, s9, s10, s11, s12, s13, s14, s15, s16, s17⟩
      go_simp
      with_reducible rfl
     rotate_left
     ·simp only [Act.put, List.setIfInBounds_toArray, List.set_cons_zero, List.set_cons_succ, i64_w, i32_w]
      rfl
     refine take_ (i := 4) (N := some 64) (v := ?_) (a' := ?_) #[true, true, false, true, true, true, false, false, true, false, false, false] rfl rfl (take_ofW HT_.out HW_.out (by kernel_rfl)) (fun _ _ _ h => h) (Or.inl ⟨by rfl, ?_⟩) hHeld ?_ ?_
     rotate_left
     ·rintro w' ⟨s0, s1, s2, s3, s4, s5, s6, s7, s8, s9, s10, s11, s12, s13, s14, s15, s16, s17⟩
      go_simp
      with_reducible rfl
     rotate_left
     ·simp only [Act.put, List.setIfInBounds_toArray, List.set_cons_zero, List.set_cons_succ, i64_w, i32_w]
      rfl
     refine take_ (i := 6) (N := some 66) (v := ?_) (a' := ?_) #[true, true, false, true, true, true, true, false, true, false, false, false] rfl rfl (take_ofW HT_.out HW_.out (by kernel_rfl)) (fun _ _ _ h => h) (Or.inl ⟨by rfl, ?_⟩) hHeld ?_ ?_
     rotate_left
     ·rintro w' ⟨s0, s1, s2, s3, s4, s5, s6, s7, s8, s9, s10, s11, s12, s13, s14, s15, s16, s17⟩
      go_simp
      with_reducible rfl
     rotate_left
     ·simp only [Act.put, List.setIfInBounds_toArray, List.set_cons_zero, List.set_cons_succ, i64_w, i32_w]
      rfl
     refine take_ (i := 9) (N := some 69) (v := ?_) (a' := ?_) #[true, true, false, true, true, true, true, false, true, true, false, false] rfl rfl (take_ofW HT_.out HW_.out (by kernel_rfl)) (fun _ _ _ h => h) (Or.inl ⟨by rfl, ?_⟩) hHeld ?_ ?_
     rotate_left
     ·rintro w' ⟨s0, s1, s2, s3, s4, s5, s6, s7, s8, s9, s10, s11, s12, s13, s14, s15, s16, s17⟩
      go_simp
      with_reducible rfl
     rotate_left
     ·simp only [Act.put, List.setIfInBounds_toArray, List.set_cons_zero, List.set_cons_succ, i64_w, i32_w]
      rfl
     refine one_ (i := 2) (N := some 62) #[true, true, true, true, true, true, true, false, true, true, false, false] rfl rfl (one_of HT_.out (by kernel_rfl)) (by decide) (fun K hK => ?_)
     refine goes_ Try.func34 (by kernel_rfl) rfl #[.slice A0_6 l0_6.length c0_6] (by rfl) rfl rfl (by (try simp only [List.map_toArray, List.map_cons, List.map_nil]); first | done | rfl | (simp only [List.length_drop, List.length_take]; rfl)) ?_
     with_reducible refine (tidepoleref06_Places.calls kj2 _ _ l0_6 t112 _ ?side1 ?side2 A62.out).mono ?_
     (case side1 => repeat (first | exact (Kd.C_below HR0_6.out HB.out) | (with_reducible refine Kd.C_alloc ?_ _) | (with_reducible refine Kd.C_drewN ?_ _) | (with_reducible refine Kd.C_drew ?_)))
     (case side2 => exact HC0_6.out)
     rintro e w71 ⟨v113, rfl, ho0, hb⟩
     refine ⟨_, rfl, ?_⟩
     have n0_ := Aside0.mk (Kd.R_elder' (by (with_reducible repeat (first | apply Kd.R_alloc | apply Kd.R_drewN | apply Kd.R_drew)); exact HO107.out) (Kd.R_base ho0) hb)
     have n1_ := Aside0.mk (Kd.R_elder' (by (with_reducible repeat (first | apply Kd.R_alloc | apply Kd.R_drewN | apply Kd.R_drew)); exact HO110.out) (Kd.R_base ho0) hb)
     have n2_ := Aside0.mk (Kd.R_lower (Kd.R_new' (Kd.R_new' ho0 (Kd.R_lt (by (with_reducible repeat (first | apply Kd.R_alloc | apply Kd.R_drewN | apply Kd.R_drew)); exact HO107.out))) (Kd.R_lt (by (with_reducible repeat (first | apply Kd.R_alloc | apply Kd.R_drewN | apply Kd.R_drew)); exact HO110.out))) (below_size (by repeat (first | (with_reducible first | exact HB.out | apply below_alloc | apply pw_below_drewN | apply below_drew1 | refine below_set ?_ GE101.out | refine below_set ?_ GE102.out) | exact HB.out))))
     have n3_ := Aside0.mk (blk_below (g := gb101) (o := .cells #[.int .i64 a0_0, .int .u64 a0_1, .int .u64 a0_2, .int .u64 a0_3, .int .u64 a0_4, .slice A0_5 l0_5.length c0_5, .slice A0_6 l0_6.length c0_6, .slice A0_7 l0_7.length c0_7, .slice A0_8 l0_8.length c0_8] 84 (0, 0)) (by (with_reducible repeat (first | refine blk_drewN ?_ _ | refine blk_drew ?_ | refine blk_alloc ?_ _)); exact BK101.out) hb)
     have n4_ := Aside0.mk (blk_below (g := gb102) (o := .cells #[.int .i64 a1_0, .int .u64 a1_1, .int .u64 a1_2, .int .u64 a1_3, .int .u64 a1_4, .slice A1_5 l1_5.length c1_5, .slice A1_6 l1_6.length c1_6, .slice A1_7 l1_7.length c1_7, .slice A1_8 l1_8.length c1_8] 84 (0, 0)) (by (with_reducible repeat (first | refine blk_drewN ?_ _ | refine blk_drew ?_ | refine blk_alloc ?_ _)); exact BK102.out) hb)
     have n5_ := Aside0.mk (below_step (by repeat (first | (with_reducible first | exact HB.out | apply below_alloc | apply pw_below_drewN | apply below_drew1 | refine below_set ?_ GE101.out | refine below_set ?_ GE102.out) | exact HB.out)) hb)
     clear HO107
     clear HO110
     clear BK101
     clear BK102
     clear HB
     have HO107 := n0_
     have HO110 := n1_
     have HO114 := n2_
     have BK101 := n3_
     have BK102 := n4_
     have HB := n5_
     clear n0_ n1_ n2_ n3_ n4_ n5_
     (try clear hb)
     (try clear hb2)
     (try clear hk)
     (try clear hi)
     (try clear ho0)
     refine hK.out _ _ ⟨(blk_cell BK101.out 0).trans rfl, (blk_cell BK101.out 1).trans rfl, (blk_cell BK101.out 2).trans rfl, (blk_cell BK101.out 3).trans rfl, (blk_cell BK101.out 4).trans rfl, (blk_cell BK101.out 5).trans rfl, (blk_cell BK101.out 6).trans rfl, (blk_cell BK101.out 7).trans rfl, (blk_cell BK101.out 8).trans rfl, (blk_cell BK102.out 0).trans rfl, (blk_cell BK102.out 1).trans rfl, (blk_cell BK102.out 2).trans rfl, (blk_cell BK102.out 3).trans rfl, (blk_cell BK102.out 4).trans rfl, (blk_cell BK102.out 5).trans rfl, (blk_cell BK102.out 6).trans rfl, (blk_cell BK102.out 7).trans rfl, (blk_cell BK102.out 8).trans rfl⟩ (fun hHeld => ?_)
     clear hK K
     refine norm_ (a' := ?_) ?_ ?_
     rotate_left
     ·show Act.put _ (some 62) _ = _
      simp only [Act.put, List.setIfInBounds_toArray, List.set_cons_zero, List.set_cons_succ, i64_w, i32_w]
      rfl
     refine one_ (i := 7) (N := some 67) #[true, true, true, true, true, true, true, true, true, true, false, false] rfl rfl (one_of HT_.out (by kernel_rfl)) (by decide) (fun K hK => ?_)
     refine goes_ Try.func34 (by kernel_rfl) rfl #[.slice A1_6 l1_6.length c1_6] (by rfl) rfl rfl (by (try simp only [List.map_toArray, List.map_cons, List.map_nil]); first | done | rfl | (simp only [List.length_drop, List.length_take]; rfl)) ?_
     with_reducible refine (tidepoleref06_Places.calls kj2 _ _ l1_6 t115 _ ?side1 ?side2 A63.out).mono ?_
     (case side1 => repeat (first | exact (Kd.C_below HR1_6.out HB.out) | (with_reducible refine Kd.C_alloc ?_ _) | (with_reducible refine Kd.C_drewN ?_ _) | (with_reducible refine Kd.C_drew ?_)))
     (case side2 => exact HC1_6.out)
     rintro e w72 ⟨v116, rfl, ho0, hb⟩
     refine ⟨_, rfl, ?_⟩
     have n0_ := Aside0.mk (Kd.R_elder' (by (with_reducible repeat (first | apply Kd.R_alloc | apply Kd.R_drewN | apply Kd.R_drew)); exact HO107.out) (Kd.R_base ho0) hb)
     have n1_ := Aside0.mk (Kd.R_elder' (by (with_reducible repeat (first | apply Kd.R_alloc | apply Kd.R_drewN | apply Kd.R_drew)); exact HO110.out) (Kd.R_base ho0) hb)
     have n2_ := Aside0.mk (Kd.R_elder' (by (with_reducible repeat (first | apply Kd.R_alloc | apply Kd.R_drewN | apply Kd.R_drew)); exact HO114.out) (Kd.R_base ho0) hb)
     have n3_ := Aside0.mk (Kd.R_lower (Kd.R_new' (Kd.R_new' (Kd.R_new' ho0 (Kd.R_lt (by (with_reducible repeat (first | apply Kd.R_alloc | apply Kd.R_drewN | apply Kd.R_drew)); exact HO107.out))) (Kd.R_lt (by (with_reducible repeat (first | apply Kd.R_alloc | apply Kd.R_drewN | apply Kd.R_drew)); exact HO110.out))) (Kd.R_lt (by (with_reducible repeat (first | apply Kd.R_alloc | apply Kd.R_drewN | apply Kd.R_drew)); exact HO114.out))) (below_size (by repeat (first | (with_reducible first | exact HB.out | apply below_alloc | apply pw_below_drewN | apply below_drew1 | refine below_set ?_ GE101.out | refine below_set ?_ GE102.out) | exact HB.out))))
     have n4_ := Aside0.mk (blk_below (g := gb101) (o := .cells #[.int .i64 a0_0, .int .u64 a0_1, .int .u64 a0_2, .int .u64 a0_3, .int .u64 a0_4, .slice A0_5 l0_5.length c0_5, .slice A0_6 l0_6.length c0_6, .slice A0_7 l0_7.length c0_7, .slice A0_8 l0_8.length c0_8] 84 (0, 0)) (by (with_reducible repeat (first | refine blk_drewN ?_ _ | refine blk_drew ?_ | refine blk_alloc ?_ _)); exact BK101.out) hb)
     have n5_ := Aside0.mk (blk_below (g := gb102) (o := .cells #[.int .i64 a1_0, .int .u64 a1_1, .int .u64 a1_2, .int .u64 a1_3, .int .u64 a1_4, .slice A1_5 l1_5.length c1_5, .slice A1_6 l1_6.length c1_6, .slice A1_7 l1_7.length c1_7, .slice A1_8 l1_8.length c1_8] 84 (0, 0)) (by (with_reducible repeat (first | refine blk_drewN ?_ _ | refine blk_drew ?_ | refine blk_alloc ?_ _)); exact BK102.out) hb)
     have n6_ := Aside0.mk (below_step (by repeat (first | (with_reducible first | exact HB.out | apply below_alloc | apply pw_below_drewN | apply below_drew1 | refine below_set ?_ GE101.out | refine below_set ?_ GE102.out) | exact HB.out)) hb)
     clear HO107
     clear HO110
     clear HO114
     clear BK101
     clear BK102
     clear HB
     have HO107 := n0_
     have HO110 := n1_
     have HO114 := n2_
     have HO117 := n3_
     have BK101 := n4_
     have BK102 := n5_
     have HB := n6_
     clear n0_ n1_ n2_ n3_ n4_ n5_ n6_
     (try clear hb)
     (try clear hb2)
     (try clear hk)
     (try clear hi)
     (try clear ho0)
     obtain ⟨Ao73, co73, eo73⟩ := Kd.R_slice HO114.out
     (first | subst eo73 | (injection eo73 with f1_ f2_ f3_; have f4_ := f1_.symm; have f5_ := f3_.symm; clear f1_ f2_ f3_; subst f4_; subst f5_))
     obtain ⟨Ao74, co74, eo74⟩ := Kd.R_slice HO117.out
     (first | subst eo74 | (injection eo74 with f1_ f2_ f3_; have f4_ := f1_.symm; have f5_ := f3_.symm; clear f1_ f2_ f3_; subst f4_; subst f5_))
     refine hK.out _ _ ⟨(blk_cell BK101.out 0).trans rfl, (blk_cell BK101.out 1).trans rfl, (blk_cell BK101.out 2).trans rfl, (blk_cell BK101.out 3).trans rfl, (blk_cell BK101.out 4).trans rfl, (blk_cell BK101.out 5).trans rfl, (blk_cell BK101.out 6).trans rfl, (blk_cell BK101.out 7).trans rfl, (blk_cell BK101.out 8).trans rfl, (blk_cell BK102.out 0).trans rfl, (blk_cell BK102.out 1).trans rfl, (blk_cell BK102.out 2).trans rfl, (blk_cell BK102.out 3).trans rfl, (blk_cell BK102.out 4).trans rfl, (blk_cell BK102.out 5).trans rfl, (blk_cell BK102.out 6).trans rfl, (blk_cell BK102.out 7).trans rfl, (blk_cell BK102.out 8).trans rfl⟩ (fun hHeld => ?_)
     clear hK K
     refine norm_ (a' := ?_) ?_ ?_
     rotate_left
     ·show Act.put _ (some 67) _ = _
      simp only [Act.put, List.setIfInBounds_toArray, List.set_cons_zero, List.set_cons_succ, i64_w, i32_w]
      rfl
     refine one_ (i := 10) (N := some 70) #[true, true, true, true, true, true, true, true, true, true, true, false] rfl rfl (one_of HT_.out (by kernel_rfl)) (by decide) (fun K hK => ?_)
     refine goes_ Try.func163 (by kernel_rfl) rfl #[.slice Ao73 t112.length co73, .slice A0_8 l0_8.length c0_8, .slice Ao74 t115.length co74, .slice A1_8 l1_8.length c1_8] (by rfl) rfl rfl (by (try simp only [List.map_toArray, List.map_cons, List.map_nil]); first | done | rfl | (simp only [List.length_drop, List.length_take]; rfl)) ?_
     with_reducible refine (tidepoleref10_Same.calls kj2 _ _ t112 _ _ l0_8 _ _ t115 _ _ l1_8 t118 _ ?side1 ?side2 ?side3 ?side4 ?side5 ?side6 ?side7 ?side8 A64.out).mono ?_
     (case side1 => repeat (first | exact (Kd.R_reads' HO114.out).2.2 | (with_reducible refine Kd.C_alloc ?_ _) | (with_reducible refine Kd.C_drewN ?_ _) | (with_reducible refine Kd.C_drew ?_)))
     (case side2 => exact (Kd.R_reads' HO114.out).2.1)
     (case side3 => repeat (first | exact (Kd.C_below HR0_8.out HB.out) | (with_reducible refine Kd.C_alloc ?_ _) | (with_reducible refine Kd.C_drewN ?_ _) | (with_reducible refine Kd.C_drew ?_)))
     (case side4 => exact HC0_8.out)
     (case side5 => repeat (first | exact (Kd.R_reads' HO117.out).2.2 | (with_reducible refine Kd.C_alloc ?_ _) | (with_reducible refine Kd.C_drewN ?_ _) | (with_reducible refine Kd.C_drew ?_)))
     (case side6 => exact (Kd.R_reads' HO117.out).2.1)
     (case side7 => repeat (first | exact (Kd.C_below HR1_8.out HB.out) | (with_reducible refine Kd.C_alloc ?_ _) | (with_reducible refine Kd.C_drewN ?_ _) | (with_reducible refine Kd.C_drew ?_)))
     (case side8 => exact HC1_8.out)
     rintro e w' ⟨rfl, ⟨nd, rfl⟩⟩
     refine ⟨_, rfl, ?_⟩
     refine hK.out _ _ ⟨(blk_cell BK101.out 0).trans rfl, (blk_cell BK101.out 1).trans rfl, (blk_cell BK101.out 2).trans rfl, (blk_cell BK101.out 3).trans rfl, (blk_cell BK101.out 4).trans rfl, (blk_cell BK101.out 5).trans rfl, (blk_cell BK101.out 6).trans rfl, (blk_cell BK101.out 7).trans rfl, (blk_cell BK101.out 8).trans rfl, (blk_cell BK102.out 0).trans rfl, (blk_cell BK102.out 1).trans rfl, (blk_cell BK102.out 2).trans rfl, (blk_cell BK102.out 3).trans rfl, (blk_cell BK102.out 4).trans rfl, (blk_cell BK102.out 5).trans rfl, (blk_cell BK102.out 6).trans rfl, (blk_cell BK102.out 7).trans rfl, (blk_cell BK102.out 8).trans rfl⟩ (fun hHeld => ?_)
     clear hK K
     refine norm_ (a' := ?_) ?_ ?_
     rotate_left
     ·show Act.put _ (some 70) _ = _
      simp only [Act.put, List.setIfInBounds_toArray, List.set_cons_zero, List.set_cons_succ, i64_w, i32_w]
      rfl
     refine pure_ (i := 11) (N := some 4) (v := ?_) (a' := ?_) #[true, true, true, true, true, true, true, true, true, true, true, true] rfl rfl (any_of HT_.out (by kernel_rfl)) (fun _ _ _ h => h) (Or.inl ⟨by rfl, ?_⟩) ?_ ?_
     rotate_left
     ·intro w'
      go_simp
      with_reducible rfl
     rotate_left
     ·simp only [Act.put, List.setIfInBounds_toArray, List.set_cons_zero, List.set_cons_succ, i64_w, i32_w]
      rfl
     refine done_ (done_of HT_.out (by kernel_rfl)) ?_
     try go_wp2
     go_ret
     exact ⟨by first | rfl | (simp [errW_none, errW_some] <;> rfl) | (simp [*, errW_none, errW_some] <;> rfl), by repeat (first | (with_reducible first | exact HB.out | apply below_alloc | apply pw_below_drewN | apply below_drew1 | refine below_set ?_ GE101.out | refine below_set ?_ GE102.out) | exact HB.out)⟩
    ·replace c61 := Bool.eq_false_iff.mpr c61
     subst c61
     have H1 : (some false) = some r := by rw [if_neg (show ¬ (false = true) by decide)] at H; exact H
     clear H
     have H := H1
     clear H1
     obtain rfl := Option.some.inj H
     try go_wp2
     have n0_ := Aside0.mk (blk_drew BK101.out)
     have n1_ := Aside0.mk (blk_drew BK102.out)
     have n2_ := Aside0.mk (below_drew1 HB.out)
     clear BK101
     clear BK102
     clear HB
     have BK101 := n0_
     have BK102 := n1_
     have HB := n2_
     clear n0_ n1_ n2_
     refine start_ (n := 12) (S := fun w' => w'.cell? ⟨gb101, 0, none⟩ = some (.int .i64 a0_0) ∧ w'.cell? ⟨gb101, 1, none⟩ = some (.int .u64 a0_1) ∧ w'.cell? ⟨gb101, 2, none⟩ = some (.int .u64 a0_2) ∧ w'.cell? ⟨gb101, 3, none⟩ = some (.int .u64 a0_3) ∧ w'.cell? ⟨gb101, 4, none⟩ = some (.int .u64 a0_4) ∧ w'.cell? ⟨gb101, 5, none⟩ = some (.slice A0_5 l0_5.length c0_5) ∧ w'.cell? ⟨gb101, 6, none⟩ = some (.slice A0_6 l0_6.length c0_6) ∧ w'.cell? ⟨gb101, 7, none⟩ = some (.slice A0_7 l0_7.length c0_7) ∧ w'.cell? ⟨gb101, 8, none⟩ = some (.slice A0_8 l0_8.length c0_8) ∧ w'.cell? ⟨gb102, 0, none⟩ = some (.int .i64 a1_0) ∧ w'.cell? ⟨gb102, 1, none⟩ = some (.int .u64 a1_1) ∧ w'.cell? ⟨gb102, 2, none⟩ = some (.int .u64 a1_2) ∧ w'.cell? ⟨gb102, 3, none⟩ = some (.int .u64 a1_3) ∧ w'.cell? ⟨gb102, 4, none⟩ = some (.int .u64 a1_4) ∧ w'.cell? ⟨gb102, 5, none⟩ = some (.slice A1_5 l1_5.length c1_5) ∧ w'.cell? ⟨gb102, 6, none⟩ = some (.slice A1_6 l1_6.length c1_6) ∧ w'.cell? ⟨gb102, 7, none⟩ = some (.slice A1_7 l1_7.length c1_7) ∧ w'.cell? ⟨gb102, 8, none⟩ = some (.slice A1_8 l1_8.length c1_8)) (ds := []) #[false, false, false, false, false, false, false, false, false, false, false, false] (by kernel_rfl) rfl rfl ⟨(blk_cell BK101.out 0).trans rfl, (blk_cell BK101.out 1).trans rfl, (blk_cell BK101.out 2).trans rfl, (blk_cell BK101.out 3).trans rfl, (blk_cell BK101.out 4).trans rfl, (blk_cell BK101.out 5).trans rfl, (blk_cell BK101.out 6).trans rfl, (blk_cell BK101.out 7).trans rfl, (blk_cell BK101.out 8).trans rfl, (blk_cell BK102.out 0).trans rfl, (blk_cell BK102.out 1).trans rfl, (blk_cell BK102.out 2).trans rfl, (blk_cell BK102.out 3).trans rfl, (blk_cell BK102.out 4).trans rfl, (blk_cell BK102.out 5).trans rfl, (blk_cell BK102.out 6).trans rfl, (blk_cell BK102.out 7).trans rfl, (blk_cell BK102.out 8).trans rfl⟩ (fun hHeld => ?_); refine with_tabW tidepoleref10_Equal.tab3 tidepoleref10_Equal.bits3 (fun HT_ HW_ => ?_)
     generalize wc.drew = w75 at BK101 BK102 HB hHeld ⊢
     refine pure_ (i := 0) (N := some 48) (v := ?_) (a' := ?_) #[true, false, false, false, false, false, false, false, false, false, false, false] rfl rfl (any_of HT_.out (by kernel_rfl)) (fun _ _ _ h => h) (Or.inl ⟨by rfl, ?_⟩) ?_ ?_
     rotate_left
     ·intro w'
      go_simp
      with_reducible rfl
     rotate_left
     ·simp only [Act.put, List.setIfInBounds_toArray, List.set_cons_zero, List.set_cons_succ, i64_w, i32_w]
      rfl
     refine pure_ (i := 3) (N := some 51) (v := ?_) (a' := ?_) #[true, false, false, true, false, false, false, false, false, false, false, false] rfl rfl (any_of HT_.out (by kernel_rfl)) (fun _ _ _ h => h) (Or.inl ⟨by rfl, ?_⟩) ?_ ?_
     rotate_left
     ·intro w'
      go_simp
      with_reducible rfl
     rotate_left
     ·simp only [Act.put, List.setIfInBounds_toArray, List.set_cons_zero, List.set_cons_succ, i64_w, i32_w]
      rfl
     refine pure_ (i := 5) (N := some 53) (v := ?_) (a' := ?_) #[true, false, false, true, false, true, false, false, false, false, false, false] rfl rfl (any_of HT_.out (by kernel_rfl)) (fun _ _ _ h => h) (Or.inl ⟨by rfl, ?_⟩) ?_ ?_
     rotate_left
     ·intro w'
      go_simp
      with_reducible rfl
     rotate_left
     ·simp only [Act.put, List.setIfInBounds_toArray, List.set_cons_zero, List.set_cons_succ, i64_w, i32_w]
      rfl
     refine pure_ (i := 8) (N := some 56) (v := ?_) (a' := ?_) #[true, false, false, true, false, true, false, false, true, false, false, false] rfl rfl (any_of HT_.out (by kernel_rfl)) (fun _ _ _ h => h) (Or.inl ⟨by rfl, ?_⟩) ?_ ?_
     rotate_left
     ·intro w'
      go_simp
      with_reducible rfl
     rotate_left
     ·simp only [Act.put, List.setIfInBounds_toArray, List.set_cons_zero, List.set_cons_succ, i64_w, i32_w]
      rfl
     refine take_ (i := 1) (N := some 49) (v := ?_) (a' := ?_) #[true, true, false, true, false, true, false, false, true, false, false, false] rfl rfl (take_ofW HT_.out HW_.out (by kernel_rfl)) (fun _ _ _ h => h) (Or.inl ⟨by rfl, ?_⟩) hHeld ?_ ?_
     rotate_left
     ·rintro w' ⟨s0, s1, s2, s3, s4, s5, s6, s7, s8, s9, s10, s11, s12, s13, s14, s15, s16, s17⟩
      go_simp
      with_reducible rfl
     rotate_left
     ·simp only [Act.put, List.setIfInBounds_toArray, List.set_cons_zero, List.set_cons_succ, i64_w, i32_w]
      rfl
     refine take_ (i := 4) (N := some 52) (v := ?_) (a' := ?_) #[true, true, false, true, true, true, false, false, true, false, false, false] rfl rfl (take_ofW HT_.out HW_.out (by kernel_rfl)) (fun _ _ _ h => h) (Or.inl ⟨by rfl, ?_⟩) hHeld ?_ ?_
     rotate_left
     ·rintro w' ⟨s0, s1, s2, s3, s4, s5, s6, s7, s8, s9, s10, s11, s12, s13, s14, s15, s16, s17⟩
      go_simp
      with_reducible rfl
     rotate_left
     ·simp only [Act.put, List.setIfInBounds_toArray, List.set_cons_zero, List.set_cons_succ, i64_w, i32_w]
      rfl
     refine take_ (i := 6) (N := some 54) (v := ?_) (a' := ?_) #[true, true, false, true, true, true, true, false, true, false, false, false] rfl rfl (take_ofW HT_.out HW_.out (by kernel_rfl)) (fun _ _ _ h => h) (Or.inl ⟨by rfl, ?_⟩) hHeld ?_ ?_
     rotate_left
     ·rintro w' ⟨s0, s1, s2, s3, s4, s5, s6, s7, s8, s9, s10, s11, s12, s13, s14, s15, s16, s17⟩
      go_simp
      with_reducible rfl
     rotate_left
     ·simp only [Act.put, List.setIfInBounds_toArray, List.set_cons_zero, List.set_cons_succ, i64_w, i32_w]
      rfl
     refine take_ (i := 9) (N := some 57) (v := ?_) (a' := ?_) #[true, true, false, true, true, true, true, false, true, true, false, false] rfl rfl (take_ofW HT_.out HW_.out (by kernel_rfl)) (fun _ _ _ h => h) (Or.inl ⟨by rfl, ?_⟩) hHeld ?_ ?_
     rotate_left
     ·rintro w' ⟨s0, s1, s2, s3, s4, s5, s6, s7, s8, s9, s10, s11, s12, s13, s14, s15, s16, s17⟩
      go_simp
      with_reducible rfl
     rotate_left
     ·simp only [Act.put, List.setIfInBounds_toArray, List.set_cons_zero, List.set_cons_succ, i64_w, i32_w]
      rfl
     refine one_ (i := 2) (N := some 50) #[true, true, true, true, true, true, true, false, true, true, false, false] rfl rfl (one_of HT_.out (by kernel_rfl)) (by decide) (fun K hK => ?_)
     refine goes_ Try.func34 (by kernel_rfl) rfl #[.slice A0_5 l0_5.length c0_5] (by rfl) rfl rfl (by (try simp only [List.map_toArray, List.map_cons, List.map_nil]); first | done | rfl | (simp only [List.length_drop, List.length_take]; rfl)) ?_
     with_reducible refine (tidepoleref06_Places.calls kj2 _ _ l0_5 t105 _ ?side1 ?side2 A58.out).mono ?_
     (case side1 => repeat (first | exact (Kd.C_below HR0_5.out HB.out) | (with_reducible refine Kd.C_alloc ?_ _) | (with_reducible refine Kd.C_drewN ?_ _) | (with_reducible refine Kd.C_drew ?_)))
     (case side2 => exact HC0_5.out)
     rintro e w76 ⟨v106, rfl, ho0, hb⟩
     refine ⟨_, rfl, ?_⟩
     have n0_ := Aside0.mk (Kd.R_lower ho0 (below_size (by repeat (first | (with_reducible first | exact HB.out | apply below_alloc | apply pw_below_drewN | apply below_drew1 | refine below_set ?_ GE101.out | refine below_set ?_ GE102.out) | exact HB.out))))
     have n1_ := Aside0.mk (blk_below (g := gb101) (o := .cells #[.int .i64 a0_0, .int .u64 a0_1, .int .u64 a0_2, .int .u64 a0_3, .int .u64 a0_4, .slice A0_5 l0_5.length c0_5, .slice A0_6 l0_6.length c0_6, .slice A0_7 l0_7.length c0_7, .slice A0_8 l0_8.length c0_8] 84 (0, 0)) (by (with_reducible repeat (first | refine blk_drewN ?_ _ | refine blk_drew ?_ | refine blk_alloc ?_ _)); exact BK101.out) hb)
     have n2_ := Aside0.mk (blk_below (g := gb102) (o := .cells #[.int .i64 a1_0, .int .u64 a1_1, .int .u64 a1_2, .int .u64 a1_3, .int .u64 a1_4, .slice A1_5 l1_5.length c1_5, .slice A1_6 l1_6.length c1_6, .slice A1_7 l1_7.length c1_7, .slice A1_8 l1_8.length c1_8] 84 (0, 0)) (by (with_reducible repeat (first | refine blk_drewN ?_ _ | refine blk_drew ?_ | refine blk_alloc ?_ _)); exact BK102.out) hb)
     have n3_ := Aside0.mk (below_step (by repeat (first | (with_reducible first | exact HB.out | apply below_alloc | apply pw_below_drewN | apply below_drew1 | refine below_set ?_ GE101.out | refine below_set ?_ GE102.out) | exact HB.out)) hb)
     clear BK101
     clear BK102
     clear HB
     have HO107 := n0_
     have BK101 := n1_
     have BK102 := n2_
     have HB := n3_
     clear n0_ n1_ n2_ n3_
     (try clear hb)
     (try clear hb2)
     (try clear hk)
     (try clear hi)
     (try clear ho0)
     refine hK.out _ _ ⟨(blk_cell BK101.out 0).trans rfl, (blk_cell BK101.out 1).trans rfl, (blk_cell BK101.out 2).trans rfl, (blk_cell BK101.out 3).trans rfl, (blk_cell BK101.out 4).trans rfl, (blk_cell BK101.out 5).trans rfl, (blk_cell BK101.out 6).trans rfl, (blk_cell BK101.out 7).trans rfl, (blk_cell BK101.out 8).trans rfl, (blk_cell BK102.out 0).trans rfl, (blk_cell BK102.out 1).trans rfl, (blk_cell BK102.out 2).trans rfl, (blk_cell BK102.out 3).trans rfl, (blk_cell BK102.out 4).trans rfl, (blk_cell BK102.out 5).trans rfl, (blk_cell BK102.out 6).trans rfl, (blk_cell BK102.out 7).trans rfl, (blk_cell BK102.out 8).trans rfl⟩ (fun hHeld => ?_)
     clear hK K
     refine norm_ (a' := ?_) ?_ ?_
     rotate_left
     ·show Act.put _ (some 50) _ = _
      simp only [Act.put, List.setIfInBounds_toArray, List.set_cons_zero, List.set_cons_succ, i64_w, i32_w]
      rfl
     refine one_ (i := 7) (N := some 55) #[true, true, true, true, true, true, true, true, true, true, false, false] rfl rfl (one_of HT_.out (by kernel_rfl)) (by decide) (fun K hK => ?_)
     refine goes_ Try.func34 (by kernel_rfl) rfl #[.slice A1_5 l1_5.length c1_5] (by rfl) rfl rfl (by (try simp only [List.map_toArray, List.map_cons, List.map_nil]); first | done | rfl | (simp only [List.length_drop, List.length_take]; rfl)) ?_
     with_reducible refine (tidepoleref06_Places.calls kj2 _ _ l1_5 t108 _ ?side1 ?side2 A59.out).mono ?_
     (case side1 => repeat (first | exact (Kd.C_below HR1_5.out HB.out) | (with_reducible refine Kd.C_alloc ?_ _) | (with_reducible refine Kd.C_drewN ?_ _) | (with_reducible refine Kd.C_drew ?_)))
     (case side2 => exact HC1_5.out)
     rintro e w77 ⟨v109, rfl, ho0, hb⟩
     refine ⟨_, rfl, ?_⟩
     have n0_ := Aside0.mk (Kd.R_elder' (by (with_reducible repeat (first | apply Kd.R_alloc | apply Kd.R_drewN | apply Kd.R_drew)); exact HO107.out) (Kd.R_base ho0) hb)
     have n1_ := Aside0.mk (Kd.R_lower (Kd.R_new' ho0 (Kd.R_lt (by (with_reducible repeat (first | apply Kd.R_alloc | apply Kd.R_drewN | apply Kd.R_drew)); exact HO107.out))) (below_size (by repeat (first | (with_reducible first | exact HB.out | apply below_alloc | apply pw_below_drewN | apply below_drew1 | refine below_set ?_ GE101.out | refine below_set ?_ GE102.out) | exact HB.out))))
     have n2_ := Aside0.mk (blk_below (g := gb101) (o := .cells #[.int .i64 a0_0, .int .u64 a0_1, .int .u64 a0_2, .int .u64 a0_3, .int .u64 a0_4, .slice A0_5 l0_5.length c0_5, .slice A0_6 l0_6.length c0_6, .slice A0_7 l0_7.length c0_7, .slice A0_8 l0_8.length c0_8] 84 (0, 0)) (by (with_reducible repeat (first | refine blk_drewN ?_ _ | refine blk_drew ?_ | refine blk_alloc ?_ _)); exact BK101.out) hb)
     have n3_ := Aside0.mk (blk_below (g := gb102) (o := .cells #[.int .i64 a1_0, .int .u64 a1_1, .int .u64 a1_2, .int .u64 a1_3, .int .u64 a1_4, .slice A1_5 l1_5.length c1_5, .slice A1_6 l1_6.length c1_6, .slice A1_7 l1_7.length c1_7, .slice A1_8 l1_8.length c1_8] 84 (0, 0)) (by (with_reducible repeat (first | refine blk_drewN ?_ _ | refine blk_drew ?_ | refine blk_alloc ?_ _)); exact BK102.out) hb)
     have n4_ := Aside0.mk (below_step (by repeat (first | (with_reducible first | exact HB.out | apply below_alloc | apply pw_below_drewN | apply below_drew1 | refine below_set ?_ GE101.out | refine below_set ?_ GE102.out) | exact HB.out)) hb)
     clear HO107
     clear BK101
     clear BK102
     clear HB
     have HO107 := n0_
     have HO110 := n1_
     have BK101 := n2_
     have BK102 := n3_
     have HB := n4_
     clear n0_ n1_ n2_ n3_ n4_
     (try clear hb)
     (try clear hb2)
     (try clear hk)
     (try clear hi)
     (try clear ho0)
     obtain ⟨Ao78, co78, eo78⟩ := Kd.R_slice HO107.out
     (first | subst eo78 | (injection eo78 with f1_ f2_ f3_; have f4_ := f1_.symm; have f5_ := f3_.symm; clear f1_ f2_ f3_; subst f4_; subst f5_))
     obtain ⟨Ao79, co79, eo79⟩ := Kd.R_slice HO110.out
     (first | subst eo79 | (injection eo79 with f1_ f2_ f3_; have f4_ := f1_.symm; have f5_ := f3_.symm; clear f1_ f2_ f3_; subst f4_; subst f5_))
     refine hK.out _ _ ⟨(blk_cell BK101.out 0).trans rfl, (blk_cell BK101.out 1).trans rfl, (blk_cell BK101.out 2).trans rfl, (blk_cell BK101.out 3).trans rfl, (blk_cell BK101.out 4).trans rfl, (blk_cell BK101.out 5).trans rfl, (blk_cell BK101.out 6).trans rfl, (blk_cell BK101.out 7).trans rfl, (blk_cell BK101.out 8).trans rfl, (blk_cell BK102.out 0).trans rfl, (blk_cell BK102.out 1).trans rfl, (blk_cell BK102.out 2).trans rfl, (blk_cell BK102.out 3).trans rfl, (blk_cell BK102.out 4).trans rfl, (blk_cell BK102.out 5).trans rfl, (blk_cell BK102.out 6).trans rfl, (blk_cell BK102.out 7).trans rfl, (blk_cell BK102.out 8).trans rfl⟩ (fun hHeld => ?_)
     clear hK K
     refine norm_ (a' := ?_) ?_ ?_
     rotate_left
     ·show Act.put _ (some 55) _ = _
      simp only [Act.put, List.setIfInBounds_toArray, List.set_cons_zero, List.set_cons_succ, i64_w, i32_w]
      rfl
     refine one_ (i := 10) (N := some 58) #[true, true, true, true, true, true, true, true, true, true, true, false] rfl rfl (one_of HT_.out (by kernel_rfl)) (by decide) (fun K hK => ?_)
     refine goes_ Try.func163 (by kernel_rfl) rfl #[.slice Ao78 t105.length co78, .slice A0_7 l0_7.length c0_7, .slice Ao79 t108.length co79, .slice A1_7 l1_7.length c1_7] (by rfl) rfl rfl (by (try simp only [List.map_toArray, List.map_cons, List.map_nil]); first | done | rfl | (simp only [List.length_drop, List.length_take]; rfl)) ?_
     with_reducible refine (tidepoleref10_Same.calls kj2 _ _ t105 _ _ l0_7 _ _ t108 _ _ l1_7 false _ ?side1 ?side2 ?side3 ?side4 ?side5 ?side6 ?side7 ?side8 A60.out).mono ?_
     (case side1 => repeat (first | exact (Kd.R_reads' HO107.out).2.2 | (with_reducible refine Kd.C_alloc ?_ _) | (with_reducible refine Kd.C_drewN ?_ _) | (with_reducible refine Kd.C_drew ?_)))
     (case side2 => exact (Kd.R_reads' HO107.out).2.1)
     (case side3 => repeat (first | exact (Kd.C_below HR0_7.out HB.out) | (with_reducible refine Kd.C_alloc ?_ _) | (with_reducible refine Kd.C_drewN ?_ _) | (with_reducible refine Kd.C_drew ?_)))
     (case side4 => exact HC0_7.out)
     (case side5 => repeat (first | exact (Kd.R_reads' HO110.out).2.2 | (with_reducible refine Kd.C_alloc ?_ _) | (with_reducible refine Kd.C_drewN ?_ _) | (with_reducible refine Kd.C_drew ?_)))
     (case side6 => exact (Kd.R_reads' HO110.out).2.1)
     (case side7 => repeat (first | exact (Kd.C_below HR1_7.out HB.out) | (with_reducible refine Kd.C_alloc ?_ _) | (with_reducible refine Kd.C_drewN ?_ _) | (with_reducible refine Kd.C_drew ?_)))
     (case side8 => exact HC1_7.out)
     rintro e w' ⟨rfl, ⟨nd, rfl⟩⟩
     refine ⟨_, rfl, ?_⟩
     refine hK.out _ _ ⟨(blk_cell BK101.out 0).trans rfl, (blk_cell BK101.out 1).trans rfl, (blk_cell BK101.out 2).trans rfl, (blk_cell BK101.out 3).trans rfl, (blk_cell BK101.out 4).trans rfl, (blk_cell BK101.out 5).trans rfl, (blk_cell BK101.out 6).trans rfl, (blk_cell BK101.out 7).trans rfl, (blk_cell BK101.out 8).trans rfl, (blk_cell BK102.out 0).trans rfl, (blk_cell BK102.out 1).trans rfl, (blk_cell BK102.out 2).trans rfl, (blk_cell BK102.out 3).trans rfl, (blk_cell BK102.out 4).trans rfl, (blk_cell BK102.out 5).trans rfl, (blk_cell BK102.out 6).trans rfl, (blk_cell BK102.out 7).trans rfl, (blk_cell BK102.out 8).trans rfl⟩ (fun hHeld => ?_)
     clear hK K
     refine norm_ (a' := ?_) ?_ ?_
     rotate_left
     ·show Act.put _ (some 58) _ = _
      simp only [Act.put, List.setIfInBounds_toArray, List.set_cons_zero, List.set_cons_succ, i64_w, i32_w]
      rfl
     refine pure_ (i := 11) (N := some 59) (v := ?_) (a' := ?_) #[true, true, true, true, true, true, true, true, true, true, true, true] rfl rfl (any_of HT_.out (by kernel_rfl)) (fun _ _ _ h => h) (Or.inl ⟨by rfl, ?_⟩) ?_ ?_
     rotate_left
     ·intro w'
      go_simp
      with_reducible rfl
     rotate_left
     ·simp only [Act.put, List.setIfInBounds_toArray, List.set_cons_zero, List.set_cons_succ, i64_w, i32_w]
      rfl
     refine done_ (done_of HT_.out (by kernel_rfl)) ?_
     try go_wp2
     go_ret
     exact ⟨by first | rfl | (simp [errW_none, errW_some] <;> rfl) | (simp [*, errW_none, errW_some] <;> rfl), by repeat (first | (with_reducible first | exact HB.out | apply below_alloc | apply pw_below_drewN | apply below_drew1 | refine below_set ?_ GE101.out | refine below_set ?_ GE102.out) | exact HB.out)⟩
end Go.Proofs.Ytacgeafjilipdaa.P
namespace Go.Proofs.Ytacgeafjilipdaa.P
open Go.RowKit Go.Shelf Go.Proofs.YtacgeafjilipdaaW.PrintWords Go.Proofs.YtacgeafjilipdaaW.PrintLast Go.Proofs.YtacgeafjilipdaaW.PrintMore
set_option linter.unusedVariables false
set_option linter.unusedSimpArgs false
def agreesU (a b : List Pu) : Bool := a.all (fun x => decide (x.f1 = lookPu b x.f0))
theorem refSameU_l1 (a b : List Pu) (ha : a.length < 17592186044416) (hb : b.length < 17592186044416) : ∀ (d k i : Nat), b.length - i = d → d + a.length < k → i ≤ b.length →
    tidepoleref10_Same.l1 k (a.map (·.f0)) (a.map (·.f1)) (b.map (·.f0)) (b.map (·.f1)) (i : Int) = some (agreesU (b.drop i) a) := by
  intro d
  induction d with
  | zero =>
    intro k i hd hk hi
    obtain ⟨k, rfl⟩ : ∃ m, k = m + 1 := ⟨k - 1, by omega⟩
    rw [tidepoleref10_Same.l1, List.length_map, if_neg (by omega), drop_end (by omega)]; rfl
  | succ d ih =>
    intro k i hd hk hi
    obtain ⟨k, rfl⟩ : ∃ m, k = m + 1 := ⟨k - 1, by omega⟩
    have hlt : i < b.length := by omega
    rw [tidepoleref10_Same.l1, List.length_map, List.length_map, if_pos (by omega), if_pos (by omega), if_pos (by omega), rd_map _ hlt, rd_map _ hlt, refAtF_eq a _ ha k (by omega), Option.bind_some, drop_at hlt, wrap_succ (by omega)]
    simp only [agreesU, List.all_cons]
    by_cases c : b[i].f1 = lookPu a b[i].f0
    · rw [if_pos c, decide_eq_true c, Bool.true_and]; exact ih k (i + 1) (by omega) (by omega) (by omega)
    · rw [if_neg c, decide_eq_false c, Bool.false_and]
theorem refSameU_l0 (a b : List Pu) (ha : a.length < 17592186044416) (hb : b.length < 17592186044416) : ∀ (d k i : Nat), a.length - i = d → d + a.length + b.length + 1 < k → i ≤ a.length →
    tidepoleref10_Same.l0 k (a.map (·.f0)) (a.map (·.f1)) (b.map (·.f0)) (b.map (·.f1)) (i : Int) = some (agreesU (a.drop i) b && agreesU b a) := by
  intro d
  induction d with
  | zero =>
    intro k i hd hk hi
    obtain ⟨k, rfl⟩ : ∃ m, k = m + 1 := ⟨k - 1, by omega⟩
    rw [tidepoleref10_Same.l0, List.length_map, if_neg (by omega), drop_end (by omega)]
    have := refSameU_l1 a b ha hb b.length k 0 (by omega) (by omega) (by omega)
    rw [show (0 : Int) = ((0 : Nat) : Int) from rfl, this]; simp [agreesU]
  | succ d ih =>
    intro k i hd hk hi
    obtain ⟨k, rfl⟩ : ∃ m, k = m + 1 := ⟨k - 1, by omega⟩
    have hlt : i < a.length := by omega
    rw [tidepoleref10_Same.l0, List.length_map, List.length_map, if_pos (by omega), if_pos (by omega), if_pos (by omega), rd_map _ hlt, rd_map _ hlt, refAtF_eq b _ hb k (by omega), Option.bind_some, drop_at hlt, wrap_succ (by omega)]
    simp only [agreesU, List.all_cons]
    by_cases c : a[i].f1 = lookPu b a[i].f0
    · rw [if_pos c, decide_eq_true c, Bool.true_and]; exact ih k (i + 1) (by omega) (by omega) (by omega)
    · rw [if_neg c, decide_eq_false c, Bool.false_and, Bool.false_and]
theorem refSame10_eq (a b : List Pu) (ha : a.length < 17592186044416) (hb : b.length < 17592186044416) (k : Nat) (hk : 2 * a.length + b.length + 1 < k) :
    tidepoleref10_Same.f k (a.map (·.f0)) (a.map (·.f1)) (b.map (·.f0)) (b.map (·.f1)) = some (agreesU a b && agreesU b a) := by
  unfold tidepoleref10_Same.f
  exact refSameU_l0 a b ha hb a.length k 0 (by omega) (by omega) (by omega)
theorem agreesU_iff {a b : List Pu} (ha : Ups (fun p : Pu => p.f0) a) (hb : Ups (fun p : Pu => p.f0) b) : (agreesU a b && agreesU b a) = decide (some0U a = some0U b) := by
  have h := filter_iff (key := fun p : Pu => p.f0) (val := fun p : Pu => p.f1) (fun x y h1 h2 => by cases x; cases y; simp only at h1 h2; rw [h1, h2]) ha hb
  have e : ∀ l : List Pu, some0U l = l.filter (fun x => decide (x.f1 ≠ 0)) := fun l => by
    unfold some0U
    congr 1; funext x
    by_cases c : x.f1 = 0
    · simp [c]
    · simp [c]
  rw [Bool.eq_iff_iff, Bool.and_eq_true, decide_eq_true_eq, e, e]
  unfold agreesU
  rw [List.all_eq_true, List.all_eq_true]
  simp only [decide_eq_true_eq]
  exact h.symm
theorem refEqualF_eq (a b : Fh) (hwa : wfF a) (hwb : wfF b) (k : Nat) (hk : 5120003 + a.f7.length + a.f8.length + b.f7.length + b.f8.length < k) :
    tidepoleref10_Equal.f k a.f0 a.f1 a.f2 a.f3 a.f4 (a.f5.map toR) (a.f6.map toR) a.f7 a.f8 b.f0 b.f1 b.f2 b.f3 b.f4 (b.f5.map toR) (b.f6.map toR) b.f7 b.f8 = some (equalF a b) := by
  obtain ⟨k, rfl⟩ : ∃ n, k = n + 1 := ⟨k - 1, by omega⟩
  have jt : ∀ x0 x1 x2 x3 x4 x5 x6 x7 x8 y0 y1 y2 y3 y4 y5 y6 y7 y8, tidepoleref10_Equal.j0 (k + 1) true x0 x1 x2 x3 x4 x5 x6 x7 x8 y0 y1 y2 y3 y4 y5 y6 y7 y8 = some false := fun _ _ _ _ _ _ _ _ _ _ _ _ _ _ _ _ _ _ => by rw [tidepoleref10_Equal.j0, if_pos rfl]
  unfold tidepoleref10_Equal.f
  rw [refCheckF_eq a hwa _ (by omega), Option.bind_some]
  by_cases ca : checkF a = 0
  rotate_left
  · rw [if_neg ca, jt, show equalF a b = false by unfold equalF; rw [decide_eq_false ca]; simp]
  rw [if_pos ca, refCheckF_eq b hwb _ (by omega), Option.bind_some]
  by_cases cb : checkF b = 0
  rotate_left
  · rw [if_neg cb, jt, show equalF a b = false by unfold equalF; rw [decide_eq_false cb]; simp]
  rw [if_pos cb]
  by_cases e0 : a.f0 = b.f0
  rotate_left
  · rw [if_neg e0, jt, show equalF a b = false by unfold equalF; rw [decide_eq_false (show ¬ sameNumsF a b from fun h => e0 h.1)]; simp]
  rw [if_pos e0]
  by_cases e1 : a.f1 = b.f1
  rotate_left
  · rw [if_neg e1, jt, show equalF a b = false by unfold equalF; rw [decide_eq_false (show ¬ sameNumsF a b from fun h => e1 h.2.1)]; simp]
  rw [if_pos e1]
  by_cases e2 : a.f2 = b.f2
  rotate_left
  · rw [if_neg e2, jt, show equalF a b = false by unfold equalF; rw [decide_eq_false (show ¬ sameNumsF a b from fun h => e2 h.2.2.1)]; simp]
  rw [if_pos e2]
  by_cases e3 : a.f3 = b.f3
  rotate_left
  · rw [if_neg e3, jt, show equalF a b = false by unfold equalF; rw [decide_eq_false (show ¬ sameNumsF a b from fun h => e3 h.2.2.2.1)]; simp]
  rw [if_pos e3]
  by_cases e4 : a.f4 = b.f4
  rotate_left
  · rw [show (a.f4 != b.f4) = true from bne_iff_ne.2 e4, jt, show equalF a b = false by unfold equalF; rw [decide_eq_false (show ¬ sameNumsF a b from fun h => e4 h.2.2.2.2)]; simp]
  rw [show (a.f4 != b.f4) = false by rw [e4]; simp]
  have ra := sideF_row (l := a.f5) hwa.2.2.2.2.2.2.2.1
  have rb := sideF_row (l := b.f5) hwb.2.2.2.2.2.2.2.1
  have na := sideF_row (l := a.f6) hwa.2.2.2.2.2.2.2.2.1
  have nb := sideF_row (l := b.f6) hwb.2.2.2.2.2.2.2.2.1
  obtain ⟨-, za, ya⟩ := checkF_zero ca
  obtain ⟨-, zb, yb⟩ := checkF_zero cb
  obtain ⟨-, -, a1, a2, a3, -⟩ := sideF_bounds za
  obtain ⟨-, -, b1, b2, b3, -⟩ := sideF_bounds zb
  obtain ⟨-, -, a4, a5, a6, -⟩ := sideF_bounds ya
  obtain ⟨-, -, b4, b5, b6, -⟩ := sideF_bounds yb
  have c1 := refPlaces_eq a.f5 a2 k (by omega)
  have c2 := refPlaces_eq b.f5 b2 k (by omega)
  have c3 := refPlaces_eq a.f6 a5 k (by omega)
  have c4 := refPlaces_eq b.f6 b5 k (by omega)
  rw [← a1] at c1
  rw [← b1] at c2
  rw [← a4] at c3
  rw [← b4] at c4
  have m1 := refSame10_eq (sideF a.f5 a.f7).1 (sideF b.f5 b.f7).1 (by have := ra.len; omega) (by have := rb.len; omega) k (by have := ra.len; have := rb.len; omega)
  have m2 := refSame10_eq (sideF a.f6 a.f8).1 (sideF b.f6 b.f8).1 (by have := na.len; omega) (by have := nb.len; omega) k (by have := na.len; have := nb.len; omega)
  rw [a3, b3, agreesU_iff ra.ups rb.ups] at m1
  rw [a6, b6, agreesU_iff na.ups nb.ups] at m2
  unfold equalF
  rw [decide_eq_true (show sameNumsF a b from ⟨e0, e1, e2, e3, e4⟩), decide_eq_true ca, decide_eq_true cb, openF_right ca, openF_right cb]
  rw [tidepoleref10_Equal.j0, if_neg (by simp), c1, Option.bind_some, c2, Option.bind_some, m1, Option.bind_some]
  simp only
  cases hq : decide (some0U (sideF a.f5 a.f7).1 = some0U (sideF b.f5 b.f7).1) with
  | true => rw [if_pos rfl, c3, Option.bind_some, c4, Option.bind_some, m2, Option.bind_some]; simp
  | false => rw [if_neg (by simp)]; simp
theorem refEqualF_c (a b : Fh) (hwa : wfF a) (hwb : wfF b) (w : World) (u v : Value) (hu : GR w u a) (hv : GR w v b) : Calls Try.prog 104 #[u, v] w fun e w' => e = .returned (.bool (equalF a b)) ∧ Below w.heap.size w w' := by
  obtain ⟨_, _, _, _, rfl, ⟨A5, c5, rfl, i5, s5⟩, ⟨A6, c6, rfl, i6, s6⟩, ⟨A7, c7, rfl, i7, s7⟩, ⟨A8, c8, rfl, i8, s8⟩⟩ := hu
  obtain ⟨_, _, _, _, rfl, ⟨B5, d5, rfl, j5, t5⟩, ⟨B6, d6, rfl, j6, t6⟩, ⟨B7, d7, rfl, j7, t7⟩, ⟨B8, d8, rfl, j8, t8⟩⟩ := hv
  exact tidepoleref10_Equal.calls (5120004 + a.f7.length + a.f8.length + b.f7.length + b.f8.length) _ _ _ _ _ A5 c5 _ A6 c6 _ A7 c7 _ A8 c8 _ _ _ _ _ _ B5 d5 _ B6 d6 _ B7 d7 _ B8 d8 _ _ w s5 i5 s6 i6 s7 i7 s8 i8 t5 j5 t6 j6 t7 j7 t8 j8 (refEqualF_eq a b hwa hwb _ (by omega))
theorem equalF_symm (a b : Fh) : equalF b a = equalF a b := by
  unfold equalF
  have h1 : decide (sameNumsF b a) = decide (sameNumsF a b) := by
    rw [decide_eq_decide]; unfold sameNumsF
    exact ⟨fun h => ⟨h.1.symm, h.2.1.symm, h.2.2.1.symm, h.2.2.2.1.symm, h.2.2.2.2.symm⟩, fun h => ⟨h.1.symm, h.2.1.symm, h.2.2.1.symm, h.2.2.2.1.symm, h.2.2.2.2.symm⟩⟩
  have h2 : decide (some0U (openF b).1 = some0U (openF a).1) = decide (some0U (openF a).1 = some0U (openF b).1) := decide_eq_decide.2 ⟨Eq.symm, Eq.symm⟩
  have h3 : decide (some0U (openF b).2.1 = some0U (openF a).2.1) = decide (some0U (openF a).2.1 = some0U (openF b).2.1) := decide_eq_decide.2 ⟨Eq.symm, Eq.symm⟩
  rw [h1, h2, h3, Bool.and_comm (decide (checkF b = 0))]
end Go.Proofs.Ytacgeafjilipdaa.P
namespace Go.Proofs.Ytacgeafjilipdaa.P
open Go.RowKit Go.Shelf Go.Proofs.YtacgeafjilipdaaW.PrintWords Go.Proofs.YtacgeafjilipdaaW.PrintLast Go.Proofs.YtacgeafjilipdaaW.PrintMore
set_option linter.unusedVariables false
set_option linter.unusedSimpArgs false
def wfG (h : Fh) : Prop := i64 h.f0 ∧ u64 h.f1 ∧ u64 h.f2 ∧ u64 h.f3 ∧ u64 h.f4 ∧ wfSps h.f5 ∧ wfSps h.f6 ∧ u64s h.f7 ∧ u64s h.f8
instance (h : Fh) : Decidable (wfG h) := by unfold wfG; exact inferInstance
theorem u64_all {l : List Int} (h : ∀ x ∈ l, inI .u64 x) : u64s l := fun x hx => u64_of (h x hx)
theorem wfG_of {x : S79} (h : wf79 x) : wfG x := ⟨i64_of h.1, u64_of h.2.1, u64_of h.2.2.1, u64_of h.2.2.2.1, u64_of h.2.2.2.2.1, wfSps_of h.2.2.2.2.2.1, wfSps_of h.2.2.2.2.2.2.1, u64_all h.2.2.2.2.2.2.2.1, u64_all h.2.2.2.2.2.2.2.2⟩
theorem wfF_of {h : Fh} (x : wfG h) (h7 : h.f7.length ≤ 300) (h8 : h.f8.length ≤ 300) : wfF h := ⟨x.1, x.2.1, x.2.2.1, x.2.2.2.1, x.2.2.2.2.1, x.2.2.2.2.2.1, x.2.2.2.2.2.2.1, x.2.2.2.2.2.2.2.1, x.2.2.2.2.2.2.2.2, by omega, by omega⟩
end Go.Proofs.Ytacgeafjilipdaa.P
namespace Go.Proofs.Ytacgeafjilipdaa.P
open Go.RowKit Go.Shelf Go.Proofs.YtacgeafjilipdaaW.PrintWords Go.Proofs.YtacgeafjilipdaaW.PrintLast Go.Proofs.YtacgeafjilipdaaW.PrintMore
set_option linter.unusedVariables false
set_option linter.unusedSimpArgs false
set_option maxHeartbeats 32000000 in
set_option maxRecDepth 100000 in
theorem fhistEqual_c (a b : Fh) (hwa : wfG a) (hwb : wfG b) (w : World) (u v : Value) (hua : GI w u a) (hub : GI w v b) : Calls Try.prog 23 #[u, v] w fun e w' => e = .returned (.bool true) ∧ Below w.heap.size w w' := by
  have hud := Try.underlying79
  obtain ⟨b1, hb1, cs⟩ := small10_c a hwa.2.2.2.2.2.1 hwa.2.2.2.2.2.2.1
  obtain ⟨b2, hb2, ct⟩ := small10_c b hwb.2.2.2.2.2.1 hwb.2.2.2.2.2.2.1
  have CS := Aside0.mk cs
  have CT := Aside0.mk ct
  clear cs ct
  cases b1 with
  | false =>
    clear hb1 hb2
    obtain ⟨A5a, c5a, A6a, c6a, A7a, c7a, A8a, c8a, e, k5a, k6a, k7a, k8a⟩ := hua.open_
    subst e
    obtain ⟨A5b, c5b, A6b, c6b, A7b, c7b, A8b, c8b, e, k5b, k6b, k7b, k8b⟩ := hub.open_
    subst e
    have B := Aside0.mk (below_alloc (below_alloc (Below.refl w.heap.size w) (.cells #[.int .i64 a.f0, .int .u64 a.f1, .int .u64 a.f2, .int .u64 a.f3, .int .u64 a.f4, .slice A5a a.f5.length c5a, .slice A6a a.f6.length c6a, .slice A7a a.f7.length c7a, .slice A8a a.f8.length c8a] 79)) (.cells #[.int .i64 b.f0, .int .u64 b.f1, .int .u64 b.f2, .int .u64 b.f3, .int .u64 b.f4, .slice A5b b.f5.length c5b, .slice A6b b.f6.length c6b, .slice A7b b.f7.length c7b, .slice A8b b.f8.length c8b] 79))
    have X := Aside0.mk ((Blk.new w #[.int .i64 a.f0, .int .u64 a.f1, .int .u64 a.f2, .int .u64 a.f3, .int .u64 a.f4, .slice A5a a.f5.length c5a, .slice A6a a.f6.length c6a, .slice A7a a.f7.length c7a, .slice A8a a.f8.length c8a] 79).alloc (.cells #[.int .i64 b.f0, .int .u64 b.f1, .int .u64 b.f2, .int .u64 b.f3, .int .u64 b.f4, .slice A5b b.f5.length c5b, .slice A6b b.f6.length c6b, .slice A7b b.f7.length c7b, .slice A8b b.f8.length c8b] 79))
    have hx := fun i => X.out.cell i
    have Y := Aside0.mk (show Blk ((w.alloc (.cells #[.int .i64 a.f0, .int .u64 a.f1, .int .u64 a.f2, .int .u64 a.f3, .int .u64 a.f4, .slice A5a a.f5.length c5a, .slice A6a a.f6.length c6a, .slice A7a a.f7.length c7a, .slice A8a a.f8.length c8a] 79)).alloc (.cells #[.int .i64 b.f0, .int .u64 b.f1, .int .u64 b.f2, .int .u64 b.f3, .int .u64 b.f4, .slice A5b b.f5.length c5b, .slice A6b b.f6.length c6b, .slice A7b b.f7.length c7b, .slice A8b b.f8.length c8b] 79)) (w.heap.size + 1) #[.int .i64 b.f0, .int .u64 b.f1, .int .u64 b.f2, .int .u64 b.f3, .int .u64 b.f4, .slice A5b b.f5.length c5b, .slice A6b b.f6.length c6b, .slice A7b b.f7.length c7b, .slice A8b b.f8.length c8b] 79 by have := Blk.new (w.alloc (.cells #[.int .i64 a.f0, .int .u64 a.f1, .int .u64 a.f2, .int .u64 a.f3, .int .u64 a.f4, .slice A5a a.f5.length c5a, .slice A6a a.f6.length c6a, .slice A7a a.f7.length c7a, .slice A8a a.f8.length c8a] 79)) #[.int .i64 b.f0, .int .u64 b.f1, .int .u64 b.f2, .int .u64 b.f3, .int .u64 b.f4, .slice A5b b.f5.length c5b, .slice A6b b.f6.length c6b, .slice A7b b.f7.length c7b, .slice A8b b.f8.length c8b] 79; simpa using this)
    have hy := fun i => Y.out.cell i
    have HA := Aside0.mk (hua.below B.out)
    have HB := Aside0.mk (hub.below B.out)
    have K5a := Aside0.mk (k5a.below B.out)
    have K6a := Aside0.mk (k6a.below B.out)
    have K7a := Aside0.mk (k7a.below B.out)
    have K8a := Aside0.mk (k8a.below B.out)
    have K5b := Aside0.mk (k5b.below B.out)
    have K6b := Aside0.mk (k6b.below B.out)
    have K7b := Aside0.mk (k7b.below B.out)
    have K8b := Aside0.mk (k8b.below B.out)
    clear hua k5a k6a k7a k8a hub k5b k6b k7b k8b
    go_enter Try.func23, Try.ntmps23
    go_wp2_with (first | (go_at_call 94; (with_reducible refine (CS.out _ _ HA.out).mono ?_); rintro e W1 ⟨rfl, hb⟩; replace B := Aside0.mk (below_then B.out B.out.size hb); replace HA := Aside0.mk (HA.out.below hb); replace HB := Aside0.mk (HB.out.below hb); replace X := Aside0.mk (X.out.below hb); replace hx := fun i => X.out.cell i; replace Y := Aside0.mk (Y.out.below hb); replace hy := fun i => Y.out.cell i; clear  hb) | (go_at_call 95; (with_reducible refine (awake10_c _).mono ?_); rintro e W3 ⟨rfl, hb⟩; replace B := Aside0.mk (below_then B.out B.out.size hb); replace HA := Aside0.mk (HA.out.below hb); replace HB := Aside0.mk (HB.out.below hb); replace X := Aside0.mk (X.out.below hb); replace hx := fun i => X.out.cell i; replace Y := Aside0.mk (Y.out.below hb); replace hy := fun i => Y.out.cell i; clear  hb))
    go_ret
    exact ⟨rfl, B.out⟩
  | true =>
    cases b2 with
    | false =>
      clear hb1 hb2
      obtain ⟨A5a, c5a, A6a, c6a, A7a, c7a, A8a, c8a, e, k5a, k6a, k7a, k8a⟩ := hua.open_
      subst e
      obtain ⟨A5b, c5b, A6b, c6b, A7b, c7b, A8b, c8b, e, k5b, k6b, k7b, k8b⟩ := hub.open_
      subst e
      have B := Aside0.mk (below_alloc (below_alloc (Below.refl w.heap.size w) (.cells #[.int .i64 a.f0, .int .u64 a.f1, .int .u64 a.f2, .int .u64 a.f3, .int .u64 a.f4, .slice A5a a.f5.length c5a, .slice A6a a.f6.length c6a, .slice A7a a.f7.length c7a, .slice A8a a.f8.length c8a] 79)) (.cells #[.int .i64 b.f0, .int .u64 b.f1, .int .u64 b.f2, .int .u64 b.f3, .int .u64 b.f4, .slice A5b b.f5.length c5b, .slice A6b b.f6.length c6b, .slice A7b b.f7.length c7b, .slice A8b b.f8.length c8b] 79))
      have X := Aside0.mk ((Blk.new w #[.int .i64 a.f0, .int .u64 a.f1, .int .u64 a.f2, .int .u64 a.f3, .int .u64 a.f4, .slice A5a a.f5.length c5a, .slice A6a a.f6.length c6a, .slice A7a a.f7.length c7a, .slice A8a a.f8.length c8a] 79).alloc (.cells #[.int .i64 b.f0, .int .u64 b.f1, .int .u64 b.f2, .int .u64 b.f3, .int .u64 b.f4, .slice A5b b.f5.length c5b, .slice A6b b.f6.length c6b, .slice A7b b.f7.length c7b, .slice A8b b.f8.length c8b] 79))
      have hx := fun i => X.out.cell i
      have Y := Aside0.mk (show Blk ((w.alloc (.cells #[.int .i64 a.f0, .int .u64 a.f1, .int .u64 a.f2, .int .u64 a.f3, .int .u64 a.f4, .slice A5a a.f5.length c5a, .slice A6a a.f6.length c6a, .slice A7a a.f7.length c7a, .slice A8a a.f8.length c8a] 79)).alloc (.cells #[.int .i64 b.f0, .int .u64 b.f1, .int .u64 b.f2, .int .u64 b.f3, .int .u64 b.f4, .slice A5b b.f5.length c5b, .slice A6b b.f6.length c6b, .slice A7b b.f7.length c7b, .slice A8b b.f8.length c8b] 79)) (w.heap.size + 1) #[.int .i64 b.f0, .int .u64 b.f1, .int .u64 b.f2, .int .u64 b.f3, .int .u64 b.f4, .slice A5b b.f5.length c5b, .slice A6b b.f6.length c6b, .slice A7b b.f7.length c7b, .slice A8b b.f8.length c8b] 79 by have := Blk.new (w.alloc (.cells #[.int .i64 a.f0, .int .u64 a.f1, .int .u64 a.f2, .int .u64 a.f3, .int .u64 a.f4, .slice A5a a.f5.length c5a, .slice A6a a.f6.length c6a, .slice A7a a.f7.length c7a, .slice A8a a.f8.length c8a] 79)) #[.int .i64 b.f0, .int .u64 b.f1, .int .u64 b.f2, .int .u64 b.f3, .int .u64 b.f4, .slice A5b b.f5.length c5b, .slice A6b b.f6.length c6b, .slice A7b b.f7.length c7b, .slice A8b b.f8.length c8b] 79; simpa using this)
      have hy := fun i => Y.out.cell i
      have HA := Aside0.mk (hua.below B.out)
      have HB := Aside0.mk (hub.below B.out)
      have K5a := Aside0.mk (k5a.below B.out)
      have K6a := Aside0.mk (k6a.below B.out)
      have K7a := Aside0.mk (k7a.below B.out)
      have K8a := Aside0.mk (k8a.below B.out)
      have K5b := Aside0.mk (k5b.below B.out)
      have K6b := Aside0.mk (k6b.below B.out)
      have K7b := Aside0.mk (k7b.below B.out)
      have K8b := Aside0.mk (k8b.below B.out)
      clear hua k5a k6a k7a k8a hub k5b k6b k7b k8b
      go_enter Try.func23, Try.ntmps23
      go_wp2_with (first | (go_at_call 94; (with_reducible refine (CS.out _ _ HA.out).mono ?_); rintro e W1 ⟨rfl, hb⟩; replace B := Aside0.mk (below_then B.out B.out.size hb); replace HA := Aside0.mk (HA.out.below hb); replace HB := Aside0.mk (HB.out.below hb); replace X := Aside0.mk (X.out.below hb); replace hx := fun i => X.out.cell i; replace Y := Aside0.mk (Y.out.below hb); replace hy := fun i => Y.out.cell i; clear  hb) | (go_at_call 94; (with_reducible refine (CT.out _ _ HB.out).mono ?_); rintro e W2 ⟨rfl, hb⟩; replace B := Aside0.mk (below_then B.out B.out.size hb); replace HA := Aside0.mk (HA.out.below hb); replace HB := Aside0.mk (HB.out.below hb); replace X := Aside0.mk (X.out.below hb); replace hx := fun i => X.out.cell i; replace Y := Aside0.mk (Y.out.below hb); replace hy := fun i => Y.out.cell i; clear  hb) | (go_at_call 95; (with_reducible refine (awake10_c _).mono ?_); rintro e W3 ⟨rfl, hb⟩; replace B := Aside0.mk (below_then B.out B.out.size hb); replace HA := Aside0.mk (HA.out.below hb); replace HB := Aside0.mk (HB.out.below hb); replace X := Aside0.mk (X.out.below hb); replace hx := fun i => X.out.cell i; replace Y := Aside0.mk (Y.out.below hb); replace hy := fun i => Y.out.cell i; clear  hb))
      go_ret
      exact ⟨rfl, B.out⟩
    | true =>
      obtain ⟨n5, n6, n7, n8⟩ := hb1 rfl
      obtain ⟨m5, m6, m7, m8⟩ := hb2 rfl
      have hWa := wfF_of hwa n7 n8
      have hWb := wfF_of hwb m7 m8
      have e1 := fequal_c a b hWa hWb
      have e2 := fequal_c b a hWb hWa
      rw [equalF_symm a b] at e2
      have re := refEqualF_c a b hWa hWb
      have r1 := ref10_c a (by omega) (by omega)
      have r2 := ref10_c b (by omega) (by omega)
      generalize equalF a b = eb at *
      have E1 := Aside0.mk e1
      have E2 := Aside0.mk e2
      have RE := Aside0.mk re
      have R1 := Aside0.mk r1
      have R2 := Aside0.mk r2
      clear e1 e2 re r1 r2 hWa hWb n5 n6 n7 n8 m5 m6 m7 m8 hb1 hb2 hwa hwb
      obtain ⟨A5a, c5a, A6a, c6a, A7a, c7a, A8a, c8a, e, k5a, k6a, k7a, k8a⟩ := hua.open_
      subst e
      obtain ⟨A5b, c5b, A6b, c6b, A7b, c7b, A8b, c8b, e, k5b, k6b, k7b, k8b⟩ := hub.open_
      subst e
      have B := Aside0.mk (below_alloc (below_alloc (Below.refl w.heap.size w) (.cells #[.int .i64 a.f0, .int .u64 a.f1, .int .u64 a.f2, .int .u64 a.f3, .int .u64 a.f4, .slice A5a a.f5.length c5a, .slice A6a a.f6.length c6a, .slice A7a a.f7.length c7a, .slice A8a a.f8.length c8a] 79)) (.cells #[.int .i64 b.f0, .int .u64 b.f1, .int .u64 b.f2, .int .u64 b.f3, .int .u64 b.f4, .slice A5b b.f5.length c5b, .slice A6b b.f6.length c6b, .slice A7b b.f7.length c7b, .slice A8b b.f8.length c8b] 79))
      have X := Aside0.mk ((Blk.new w #[.int .i64 a.f0, .int .u64 a.f1, .int .u64 a.f2, .int .u64 a.f3, .int .u64 a.f4, .slice A5a a.f5.length c5a, .slice A6a a.f6.length c6a, .slice A7a a.f7.length c7a, .slice A8a a.f8.length c8a] 79).alloc (.cells #[.int .i64 b.f0, .int .u64 b.f1, .int .u64 b.f2, .int .u64 b.f3, .int .u64 b.f4, .slice A5b b.f5.length c5b, .slice A6b b.f6.length c6b, .slice A7b b.f7.length c7b, .slice A8b b.f8.length c8b] 79))
      have hx := fun i => X.out.cell i
      have Y := Aside0.mk (show Blk ((w.alloc (.cells #[.int .i64 a.f0, .int .u64 a.f1, .int .u64 a.f2, .int .u64 a.f3, .int .u64 a.f4, .slice A5a a.f5.length c5a, .slice A6a a.f6.length c6a, .slice A7a a.f7.length c7a, .slice A8a a.f8.length c8a] 79)).alloc (.cells #[.int .i64 b.f0, .int .u64 b.f1, .int .u64 b.f2, .int .u64 b.f3, .int .u64 b.f4, .slice A5b b.f5.length c5b, .slice A6b b.f6.length c6b, .slice A7b b.f7.length c7b, .slice A8b b.f8.length c8b] 79)) (w.heap.size + 1) #[.int .i64 b.f0, .int .u64 b.f1, .int .u64 b.f2, .int .u64 b.f3, .int .u64 b.f4, .slice A5b b.f5.length c5b, .slice A6b b.f6.length c6b, .slice A7b b.f7.length c7b, .slice A8b b.f8.length c8b] 79 by have := Blk.new (w.alloc (.cells #[.int .i64 a.f0, .int .u64 a.f1, .int .u64 a.f2, .int .u64 a.f3, .int .u64 a.f4, .slice A5a a.f5.length c5a, .slice A6a a.f6.length c6a, .slice A7a a.f7.length c7a, .slice A8a a.f8.length c8a] 79)) #[.int .i64 b.f0, .int .u64 b.f1, .int .u64 b.f2, .int .u64 b.f3, .int .u64 b.f4, .slice A5b b.f5.length c5b, .slice A6b b.f6.length c6b, .slice A7b b.f7.length c7b, .slice A8b b.f8.length c8b] 79; simpa using this)
      have hy := fun i => Y.out.cell i
      have HA := Aside0.mk (hua.below B.out)
      have HB := Aside0.mk (hub.below B.out)
      have K5a := Aside0.mk (k5a.below B.out)
      have K6a := Aside0.mk (k6a.below B.out)
      have K7a := Aside0.mk (k7a.below B.out)
      have K8a := Aside0.mk (k8a.below B.out)
      have K5b := Aside0.mk (k5b.below B.out)
      have K6b := Aside0.mk (k6b.below B.out)
      have K7b := Aside0.mk (k7b.below B.out)
      have K8b := Aside0.mk (k8b.below B.out)
      clear hua k5a k6a k7a k8a hub k5b k6b k7b k8b
      go_enter Try.func23, Try.ntmps23
      go_wp2_with (first | (go_at_call 94; (with_reducible refine (CS.out _ _ HA.out).mono ?_); rintro e W1 ⟨rfl, hb⟩; replace B := Aside0.mk (below_then B.out B.out.size hb); replace HA := Aside0.mk (HA.out.below hb); replace HB := Aside0.mk (HB.out.below hb); replace X := Aside0.mk (X.out.below hb); replace hx := fun i => X.out.cell i; replace Y := Aside0.mk (Y.out.below hb); replace hy := fun i => Y.out.cell i; clear  hb) | (go_at_call 94; (with_reducible refine (CT.out _ _ HB.out).mono ?_); rintro e W2 ⟨rfl, hb⟩; replace B := Aside0.mk (below_then B.out B.out.size hb); replace HA := Aside0.mk (HA.out.below hb); replace HB := Aside0.mk (HB.out.below hb); replace X := Aside0.mk (X.out.below hb); replace hx := fun i => X.out.cell i; replace Y := Aside0.mk (Y.out.below hb); replace hy := fun i => Y.out.cell i; clear  hb))
      replace HA := Aside0.mk (HA.out.below (below_drew (Below.refl _ _)))
      replace HB := Aside0.mk (HB.out.below (below_drew (Below.refl _ _)))
      replace X := Aside0.mk (X.out.below (below_drew (Below.refl _ _)))
      replace Y := Aside0.mk (Y.out.below (below_drew (Below.refl _ _)))
      replace B := Aside0.mk (below_drew B.out)
      go_region_held3 (fun W => (∀ i, W.cell? ⟨w.heap.size, i, none⟩ = (#[.int .i64 a.f0, .int .u64 a.f1, .int .u64 a.f2, .int .u64 a.f3, .int .u64 a.f4, .slice A5a a.f5.length c5a, .slice A6a a.f6.length c6a, .slice A7a a.f7.length c7a, .slice A8a a.f8.length c8a] : Array Value)[i]?) ∧ (∀ i, W.cell? ⟨w.heap.size + 1, i, none⟩ = (#[.int .i64 b.f0, .int .u64 b.f1, .int .u64 b.f2, .int .u64 b.f3, .int .u64 b.f4, .slice A5b b.f5.length c5b, .slice A6b b.f6.length c6b, .slice A7b b.f7.length c7b, .slice A8b b.f8.length c8b] : Array Value)[i]?)) (exact ⟨fun i => X.out.cell i, fun i => Y.out.cell i⟩) (first | (go_at_call 103; (with_reducible refine (E1.out _ _ _ HA.out HB.out).mono ?_); rintro e W3 ⟨rfl, hb⟩; replace B := Aside0.mk (below_then B.out B.out.size hb); replace HA := Aside0.mk (HA.out.below hb); replace HB := Aside0.mk (HB.out.below hb); replace X := Aside0.mk (X.out.below hb); replace hx := fun i => X.out.cell i; replace Y := Aside0.mk (Y.out.below hb); replace hy := fun i => Y.out.cell i; (try (replace RA := Aside0.mk (RA.out.below hb))); (try (replace RB := Aside0.mk (RB.out.below hb))); clear  hb) | (go_at_call 97; (with_reducible refine (R1.out _ _ HA.out).mono ?_); rintro e W4 ⟨ra, rfl, hr, hb⟩; replace B := Aside0.mk (below_then B.out B.out.size hb); replace HA := Aside0.mk (HA.out.below hb); replace HB := Aside0.mk (HB.out.below hb); replace X := Aside0.mk (X.out.below hb); replace hx := fun i => X.out.cell i; replace Y := Aside0.mk (Y.out.below hb); replace hy := fun i => Y.out.cell i; (try (replace RB := Aside0.mk (RB.out.below hb))); have RA := Aside0.mk hr; clear hr hb) | (go_at_call 97; (with_reducible refine (R2.out _ _ HB.out).mono ?_); rintro e W5 ⟨rb, rfl, hr, hb⟩; replace B := Aside0.mk (below_then B.out B.out.size hb); replace HA := Aside0.mk (HA.out.below hb); replace HB := Aside0.mk (HB.out.below hb); replace X := Aside0.mk (X.out.below hb); replace hx := fun i => X.out.cell i; replace Y := Aside0.mk (Y.out.below hb); replace hy := fun i => Y.out.cell i; (try (replace RA := Aside0.mk (RA.out.below hb))); have RB := Aside0.mk hr; clear hr hb) | (go_at_call 104; (with_reducible refine (RE.out _ _ _ RA.out RB.out).mono ?_); rintro e W6 ⟨rfl, hb⟩; replace B := Aside0.mk (below_then B.out B.out.size hb); replace HA := Aside0.mk (HA.out.below hb); replace HB := Aside0.mk (HB.out.below hb); replace X := Aside0.mk (X.out.below hb); replace hx := fun i => X.out.cell i; replace Y := Aside0.mk (Y.out.below hb); replace hy := fun i => Y.out.cell i; clear  hb) | (go_at_call 103; (with_reducible refine (E2.out _ _ _ HB.out HA.out).mono ?_); rintro e W7 ⟨rfl, hb⟩; replace B := Aside0.mk (below_then B.out B.out.size hb); replace HA := Aside0.mk (HA.out.below hb); replace HB := Aside0.mk (HB.out.below hb); replace X := Aside0.mk (X.out.below hb); replace hx := fun i => X.out.cell i; replace Y := Aside0.mk (Y.out.below hb); replace hy := fun i => Y.out.cell i; clear  hb) | (go_at_call 95; (with_reducible refine (awake10_c _).mono ?_); rintro e W8 ⟨rfl, hb⟩; replace B := Aside0.mk (below_then B.out B.out.size hb); replace HA := Aside0.mk (HA.out.below hb); replace HB := Aside0.mk (HB.out.below hb); replace X := Aside0.mk (X.out.below hb); replace hx := fun i => X.out.cell i; replace Y := Aside0.mk (Y.out.below hb); replace hy := fun i => Y.out.cell i; clear  hb))
      all_goals go_wp2
      all_goals go_ret
      all_goals exact ⟨rfl, B.out⟩
def tidepolelaw10_FhistEqual.f (s0 z0 zc0 ct0 sm0 : Int) (l0_5 l0_6 : List Sp) (l0_7 l0_8 : List Int) (s1 z1 zc1 ct1 sm1 : Int) (l1_5 l1_6 : List Sp) (l1_7 l1_8 : List Int) : Option Bool := if wfG ⟨s0, z0, zc0, ct0, sm0, l0_5, l0_6, l0_7, l0_8⟩ ∧ wfG ⟨s1, z1, zc1, ct1, sm1, l1_5, l1_6, l1_7, l1_8⟩ then some true else none
theorem tidepolelaw10_FhistEqual.calls (s0 : Int) (z0 : Int) (zc0 : Int) (ct0 : Int) (sm0 : Int) (A0_5 : Option Addr) (c0_5 : Nat) (l0_5 : List Sp) (A0_6 : Option Addr) (c0_6 : Nat) (l0_6 : List Sp) (A0_7 : Option Addr) (c0_7 : Nat) (l0_7 : List Int) (A0_8 : Option Addr) (c0_8 : Nat) (l0_8 : List Int) (s1 : Int) (z1 : Int) (zc1 : Int) (ct1 : Int) (sm1 : Int) (A1_5 : Option Addr) (c1_5 : Nat) (l1_5 : List Sp) (A1_6 : Option Addr) (c1_6 : Nat) (l1_6 : List Sp) (A1_7 : Option Addr) (c1_7 : Nat) (l1_7 : List Int) (A1_8 : Option Addr) (c1_8 : Nat) (l1_8 : List Int) (r : Bool) (w : World) (hr0_5 : Kd.C kSp w A0_5 l0_5.length l0_5) (hc0_5 : l0_5.length ≤ c0_5) (hr0_6 : Kd.C kSp w A0_6 l0_6.length l0_6) (hc0_6 : l0_6.length ≤ c0_6) (hr0_7 : Kd.C (Kd.int .u64) w A0_7 l0_7.length l0_7) (hc0_7 : l0_7.length ≤ c0_7) (hr0_8 : Kd.C (Kd.int .u64) w A0_8 l0_8.length l0_8) (hc0_8 : l0_8.length ≤ c0_8) (hr1_5 : Kd.C kSp w A1_5 l1_5.length l1_5) (hc1_5 : l1_5.length ≤ c1_5) (hr1_6 : Kd.C kSp w A1_6 l1_6.length l1_6) (hc1_6 : l1_6.length ≤ c1_6) (hr1_7 : Kd.C (Kd.int .u64) w A1_7 l1_7.length l1_7) (hc1_7 : l1_7.length ≤ c1_7) (hr1_8 : Kd.C (Kd.int .u64) w A1_8 l1_8.length l1_8) (hc1_8 : l1_8.length ≤ c1_8) (h : tidepolelaw10_FhistEqual.f s0 z0 zc0 ct0 sm0 l0_5 l0_6 l0_7 l0_8 s1 z1 zc1 ct1 sm1 l1_5 l1_6 l1_7 l1_8 = some r) :
    Calls Try.prog 23 #[.agg #[.int .i64 s0, .int .u64 z0, .int .u64 zc0, .int .u64 ct0, .int .u64 sm0, .slice A0_5 l0_5.length c0_5, .slice A0_6 l0_6.length c0_6, .slice A0_7 l0_7.length c0_7, .slice A0_8 l0_8.length c0_8], .agg #[.int .i64 s1, .int .u64 z1, .int .u64 zc1, .int .u64 ct1, .int .u64 sm1, .slice A1_5 l1_5.length c1_5, .slice A1_6 l1_6.length c1_6, .slice A1_7 l1_7.length c1_7, .slice A1_8 l1_8.length c1_8]] w fun e w' => e = .returned (.bool r) ∧ Below w.heap.size w w' := by
  obtain ⟨⟨q0, q1⟩, rfl⟩ := of_ite_some h
  exact fhistEqual_c _ _ q0 q1 w _ _ (GI.mk (h := ⟨s0, z0, zc0, ct0, sm0, l0_5, l0_6, l0_7, l0_8⟩) (.of hr0_5 hc0_5) (.of hr0_6 hc0_6) (.of hr0_7 hc0_7) (.of hr0_8 hc0_8)) (GI.mk (h := ⟨s1, z1, zc1, ct1, sm1, l1_5, l1_6, l1_7, l1_8⟩) (.of hr1_5 hc1_5) (.of hr1_6 hc1_6) (.of hr1_7 hc1_7) (.of hr1_8 hc1_8))
end Go.Proofs.Ytacgeafjilipdaa.P
namespace Go.Proofs.Ytacgeafjilipdaa.P
def headSigns : List Char := List.map Char.ofNat [104, 97, 114, 110, 101, 115, 115, 32, 97, 50, 97, 99, 52, 56, 53, 53, 54, 101, 54, 52, 97, 51, 49, 101, 54, 54, 98, 55, 102, 55, 97, 51, 54, 49, 102, 100, 52, 100, 51, 54, 55, 57, 100, 102, 98, 49, 97, 57, 53, 50, 101, 57, 54, 51, 55, 99, 57, 57, 56, 52, 48, 101, 100, 50, 99, 98, 97, 100, 54, 54, 50, 100, 32, 99, 117, 116, 32, 97, 116, 32, 116, 105, 100, 101, 112, 111, 108, 101, 47, 116, 105, 100, 101, 112, 111, 108, 101, 108, 97, 119, 48, 55, 46, 80, 97, 105, 114, 115, 85, 110, 122, 105, 112, 32, 116, 105, 100, 101, 112, 111, 108, 101, 47, 116, 105, 100, 101, 112, 111, 108, 101, 108, 97, 119, 48, 55, 46, 80, 97, 105, 114, 115, 70, 105, 110, 100, 115, 32, 116, 105, 100, 101, 112, 111, 108, 101, 47, 116, 105, 100, 101, 112, 111, 108, 101, 108, 97, 119, 48, 55, 46, 80, 97, 105, 114, 115, 77, 101, 114, 103, 101, 32, 116, 105, 100, 101, 112, 111, 108, 101, 47, 116, 105, 100, 101, 112, 111, 108, 101, 108, 97, 119, 48, 55, 46, 80, 97, 105, 114, 115, 90, 105, 112, 32, 116, 105, 100, 101, 112, 111, 108, 101, 47, 116, 105, 100, 101, 112, 111, 108, 101, 108, 97, 119, 48, 55, 46, 80, 97, 105, 114, 115, 68, 101, 108, 116, 97, 115, 32, 116, 105, 100, 101, 112, 111, 108, 101, 47, 116, 105, 100, 101, 112, 111, 108, 101, 108, 97, 119, 49, 49, 46, 82, 101, 115, 101, 116, 73, 110, 116, 115, 32, 116, 105, 100, 101, 112, 111, 108, 101, 47, 116, 105, 100, 101, 112, 111, 108, 101, 108, 97, 119, 49, 49, 46, 82, 101, 115, 101, 116, 70, 108, 111, 97, 116, 115, 32, 116, 105, 100, 101, 112, 111, 108, 101, 47, 116, 105, 100, 101, 112, 111, 108, 101, 108, 97, 119, 49, 49, 46, 82, 101, 115, 101, 116, 78, 97, 109, 101, 115, 32, 116, 105, 100, 101, 112, 111, 108, 101, 47, 116, 105, 100, 101, 112, 111, 108, 101, 108, 97, 119, 49, 49, 46, 82, 101, 115, 101, 116, 71, 111, 101, 115, 32, 116, 105, 100, 101, 112, 111, 108, 101, 47, 116, 105, 100, 101, 112, 111, 108, 101, 108, 97, 119, 49, 49, 46, 82, 101, 115, 101, 116, 66, 111, 116, 104, 32, 116, 105, 100, 101, 112, 111, 108, 101, 47, 116, 105, 100, 101, 112, 111, 108, 101, 108, 97, 119, 48, 57, 46, 72, 105, 115, 116, 67, 104, 101, 99, 107, 115, 32, 116, 105, 100, 101, 112, 111, 108, 101, 47, 116, 105, 100, 101, 112, 111, 108, 101, 108, 97, 119, 48, 57, 46, 72, 105, 115, 116, 80, 97, 105, 114, 115, 32, 116, 105, 100, 101, 112, 111, 108, 101, 47, 116, 105, 100, 101, 112, 111, 108, 101, 108, 97, 119, 48, 57, 46, 72, 105, 115, 116, 69, 113, 117, 97, 108, 32, 116, 105, 100, 101, 112, 111, 108, 101, 47, 116, 105, 100, 101, 112, 111, 108, 101, 108, 97, 119, 48, 57, 46, 72, 105, 115, 116, 79, 118, 101, 114, 32, 116, 105, 100, 101, 112, 111, 108, 101, 47, 116, 105, 100, 101, 112, 111, 108, 101, 108, 97, 119, 48, 57, 46, 72, 105, 115, 116, 77, 97, 107, 101, 115, 32, 116, 105, 100, 101, 112, 111, 108, 101, 47, 116, 105, 100, 101, 112, 111, 108, 101, 108, 97, 119, 48, 57, 46, 72, 105, 115, 116, 67, 97, 110, 111, 110, 32, 116, 105, 100, 101, 112, 111, 108, 101, 47, 116, 105, 100, 101, 112, 111, 108, 101, 108, 97, 119, 48, 57, 46, 72, 105, 115, 116, 87, 97, 108, 107, 115, 32, 116, 105, 100, 101, 112, 111, 108, 101, 47, 116, 105, 100, 101, 112, 111, 108, 101, 108, 97, 119, 49, 49, 46, 82, 101, 115, 101, 116, 76, 97, 121, 115, 32, 116, 105, 100, 101, 112, 111, 108, 101, 47, 116, 105, 100, 101, 112, 111, 108, 101, 108, 97, 119, 49, 48, 46, 70, 104, 105, 115, 116, 67, 104, 101, 99, 107, 115, 32, 116, 105, 100, 101, 112, 111, 108, 101, 47, 116, 105, 100, 101, 112, 111, 108, 101, 108, 97, 119, 49, 48, 46, 70, 104, 105, 115, 116, 80, 97, 105, 114, 115, 32, 116, 105, 100, 101, 112, 111, 108, 101, 47, 116, 105, 100, 101, 112, 111, 108, 101, 108, 97, 119, 49, 48, 46, 70, 104, 105, 115, 116, 69, 113, 117, 97, 108, 32, 116, 105, 100, 101, 112, 111, 108, 101, 47, 116, 105, 100, 101, 112, 111, 108, 101, 108, 97, 119, 49, 48, 46, 70, 104, 105, 115, 116, 79, 118, 101, 114, 32, 116, 105, 100, 101, 112, 111, 108, 101, 47, 116, 105, 100, 101, 112, 111, 108, 101, 108, 97, 119, 49, 48, 46, 70, 104, 105, 115, 116, 70, 108, 111, 97, 116, 115, 32, 116, 105, 100, 101, 112, 111, 108, 101, 47, 116, 105, 100, 101, 112, 111, 108, 101, 108, 97, 119, 49, 48, 46, 70, 104, 105, 115, 116, 77, 97, 107, 101, 115, 32, 116, 105, 100, 101, 112, 111, 108, 101, 47, 116, 105, 100, 101, 112, 111, 108, 101, 108, 97, 119, 49, 48, 46, 70, 104, 105, 115, 116, 67, 97, 110, 111, 110, 32, 116, 105, 100, 101, 112, 111, 108, 101, 47, 116, 105, 100, 101, 112, 111, 108, 101, 108, 97, 119, 49, 48, 46, 70, 104, 105, 115, 116, 66, 97, 99, 107, 32, 116, 105, 100, 101, 112, 111, 108, 101, 47, 116, 105, 100, 101, 112, 111, 108, 101, 108, 97, 119, 49, 48, 46, 70, 104, 105, 115, 116, 70, 114, 111, 109]
theorem head_is : Try.prog.initOrder = String.ofList headSigns := by kernel_rfl
theorem head_signs : Try.prog.initOrder.toList = headSigns := by rw [head_is]; exact String.toList_ofList
theorem head_first : (behindMainWord (wordsSigns headSigns)).head? = some "cut".toList := by kernel_rfl
theorem head_words : ∃ r, behindMainWord (wordsSigns headSigns) = "cut".toList :: r := by have h := head_first; cases h2 : behindMainWord (wordsSigns headSigns) with | nil => rw [h2] at h; cases h | cons c r => rw [h2] at h; injection h with h; exact ⟨r, by rw [h]⟩
theorem strip_cut (r : List (List Char)) : stripLifts liftWords ("cut".toList :: r) = ([], "cut".toList :: r) := by kernel_rfl
theorem head_lifts : Try.prog.headLifts = [] := by obtain ⟨r, hr⟩ := head_words; unfold Program.headLifts; rw [head_signs, hr, strip_cut]; kernel_rfl
theorem head_doorFits : Try.prog.doorFits [] = true := by kernel_rfl
theorem head_laysLater : Try.prog.laysLater = false := by kernel_rfl
theorem head_bearsReflect : Try.prog.bearsReflect = false := by kernel_rfl
theorem mayEnter_of {P : Program} {L : List Char} {r : List (List Char)} (h1 : P.initOrder.toList = L) (h2 : behindMainWord (wordsSigns L) = "cut".toList :: r) (h3 : P.doorFits [] = true) (h4 : P.laysLater = false) (h5 : P.bearsReflect = false) : P.mayEnter = true := by unfold Program.mayEnter; rw [h1, h2]; simp only [strip_cut, h3, h4, h5]; kernel_rfl
theorem head_mayEnter : Try.prog.mayEnter = true := by obtain ⟨r, hr⟩ := head_words; exact mayEnter_of head_signs hr head_doorFits head_laysLater head_bearsReflect
theorem head_liftsFinal : Try.prog.liftsFinal = false := by obtain ⟨r, hr⟩ := head_words; unfold Program.liftsFinal; rw [head_signs, head_lifts, hr]; kernel_rfl
theorem make_of {P : Program} {L : List Char} {r : List (List Char)} (h1 : P.initOrder.toList = L) (h2 : behindMainWord (wordsSigns L) = "cut".toList :: r) : P.make = some .cut := by unfold Program.make; rw [h1, h2]; kernel_rfl
theorem head_make : Try.prog.make = some .cut := by obtain ⟨r, hr⟩ := head_words; exact make_of head_signs hr
theorem head_laidOut : laidOutB Try.prog = true := by kernel_rfl
theorem head_mapsRowed : mapsRowed Try.prog = true := by kernel_rfl
theorem head_stops : (Try.prog.stops == []) = true := by kernel_rfl
theorem head_stopKnobs : (Try.prog.stopKnobs == []) = true := by kernel_rfl
theorem head_plainKeys : Try.prog.plainKeys = true := by kernel_rfl
theorem head_stopsHeard : Try.prog.stopsHeard = true := by kernel_rfl
end Go.Proofs.Ytacgeafjilipdaa.P
namespace Go.Proofs.Ytacgeafjilipdaa.Pure
open Go.RowKit Go.Proofs.Ytacgeafjilipdaa.P Go.Proofs.YtacgeafjilipdaaW.PrintWords
theorem FhistEqual : ∀ (x0 : S79) (x1 : S79), wf79 x0 → wf79 x1 → tidepolelaw10_FhistEqual.f x0.f0 x0.f1 x0.f2 x0.f3 x0.f4 x0.f5 x0.f6 x0.f7 x0.f8 x1.f0 x1.f1 x1.f2 x1.f3 x1.f4 x1.f5 x1.f6 x1.f7 x1.f8 = some true := fun _ _ h0 h1 => if_pos ⟨wfG_of h0, wfG_of h1⟩
end Go.Proofs.Ytacgeafjilipdaa.Pure
namespace Go.Proofs.Ytacgeafjilipdaa.fhistEqual
open Go.ChangeShapes Go.WideShapes Go.ChangeAt Go.RowKit Go.Proofs.Ytacgeafjilipdaa.P Go.Proofs.YtacgeafjilipdaaW.PrintWords
set_option linter.unusedVariables false
theorem own : ownKnob Try.prog.godebug = none := by kernel_rfl
theorem laidOut : laidOutB Try.prog = true := by kernel_rfl
set_option maxRecDepth 100000 in
set_option maxHeartbeats 4000000 in
theorem lifted (os : Os) (started : os.Started) (H : Type) (enc : TypeId × Value → H) :
    ReturnsInHanded {} Try.checked os 23 .any (Rows.fhistEqualSpec.pre6 enc Try.prog Try.f23 Rows.fhistEqualRow.domain false) (Rows.fhistEqualSpec.post enc Try.prog Try.f23 false true false false) := by
  refine returnsInHanded_of_change_sized (C := Try.checked) own started (by kernel_rfl) Try.func23
    (ChangeSpec.witness6 (enc := enc) (C := Try.checked) false ⟨#[], #[.agg #[.int .i64 0, .int .u64 0, .int .u64 0, .int .u64 0, .int .u64 0, .slice none 0 0, .slice none 0 0, .slice none 0 0, .slice none 0 0], .agg #[.int .i64 0, .int .u64 0, .int .u64 0, .int .u64 0, .int .u64 0, .slice none 0 0, .slice none 0 0, .slice none 0 0, .slice none 0 0]], []⟩ 8 (by kernel_rfl) (by kernel_rfl) (by kernel_rfl) (by kernel_rfl)) ?_
  intro W base args ds gs before hval0 hW hcnd hsz0 _
  have hval : ∀ (j : Nat) t v, Try.f23.params[j]? = some t → args[j]? = some v → Value.okWide Try.prog W .any base t v := hval0
  have hW' := hW
  obtain ⟨p, q, hA0, hV, rfl, hfz, hnd⟩ := hW
  have hA : DataW.TrodAll enc Try.prog W 0 (fun _ => true) true Try.f23.params.toList args.toList ds p := hA0
  rw [Try.params23] at hA hval
  obtain ⟨v0, vs0, d0, ds0, p0, q0, hargs, rfl, rfl, h0, r0⟩ := trodAll_cons hA
  obtain ⟨v1, vs1, d1, ds1, p1, q1, rfl, rfl, rfl, h1, r1⟩ := trodAll_cons r0
  obtain ⟨rfl, rfl, rfl⟩ := trodAll_nil r1
  obtain rfl : args = #[v0, v1] := by cases args; simp_all
  obtain ⟨rfl, rfl⟩ := trodVars_none hV
  have k0 := h0
  have lt0 : ∀ x ∈ p0, x.block < W.heap.size := by obtain ⟨m, hm⟩ := k0; exact DataW.trod_lt m _ _ _ hm
  obtain ⟨fu0, hf0⟩ := h0
  obtain ⟨x0, hK0, w0⟩ := opens79 enc W 0 _ true fu0 _ _ hf0
  obtain ⟨cs0, rfl, _⟩ := okWide_struct Try.underlying79 (hval 0 79 v0 rfl rfl)
  obtain ⟨A0_5, c0_5, A0_6, c0_6, A0_7, c0_7, A0_8, c0_8, he0, h0_5_l, hC0_5, h0_6_l, hC0_6, h0_7_l, hC0_7, h0_8_l, hC0_8⟩ := k79_open hK0
  obtain rfl : cs0 = #[.int .i64 x0.f0, .int .u64 x0.f1, .int .u64 x0.f2, .int .u64 x0.f3, .int .u64 x0.f4, .slice A0_5 x0.f5.length c0_5, .slice A0_6 x0.f6.length c0_6, .slice A0_7 x0.f7.length c0_7, .slice A0_8 x0.f8.length c0_8] := by
    have he : cs0.toList = _ := he0
    exact Array.toList_inj.1 he
  have k1 := h1
  have lt1 : ∀ x ∈ p1, x.block < W.heap.size := by obtain ⟨m, hm⟩ := k1; exact DataW.trod_lt m _ _ _ hm
  obtain ⟨fu1, hf1⟩ := h1
  obtain ⟨x1, hK1, w1⟩ := opens79 enc W 0 _ true fu1 _ _ hf1
  obtain ⟨cs1, rfl, _⟩ := okWide_struct Try.underlying79 (hval 1 79 v1 rfl rfl)
  obtain ⟨A1_5, c1_5, A1_6, c1_6, A1_7, c1_7, A1_8, c1_8, he1, h1_5_l, hC1_5, h1_6_l, hC1_6, h1_7_l, hC1_7, h1_8_l, hC1_8⟩ := k79_open hK1
  obtain rfl : cs1 = #[.int .i64 x1.f0, .int .u64 x1.f1, .int .u64 x1.f2, .int .u64 x1.f3, .int .u64 x1.f4, .slice A1_5 x1.f5.length c1_5, .slice A1_6 x1.f6.length c1_6, .slice A1_7 x1.f7.length c1_7, .slice A1_8 x1.f8.length c1_8] := by
    have he : cs1.toList = _ := he1
    exact Array.toList_inj.1 he
  clear hA0 hval0 hsz0
  obtain hk := Pure.FhistEqual x0 x1 w0 w1
  refine (P.tidepolelaw10_FhistEqual.calls x0.f0 x0.f1 x0.f2 x0.f3 x0.f4 A0_5 c0_5 x0.f5 A0_6 c0_6 x0.f6 A0_7 c0_7 x0.f7 A0_8 c0_8 x0.f8 x1.f0 x1.f1 x1.f2 x1.f3 x1.f4 A1_5 c1_5 x1.f5 A1_6 c1_6 x1.f6 A1_7 c1_7 x1.f7 A1_8 c1_8 x1.f8 true W hC0_5 h0_5_l hC0_6 h0_6_l hC0_7 h0_7_l hC0_8 h0_8_l hC1_5 h1_5_l hC1_6 h1_6_l hC1_7 h1_7_l hC1_8 h1_8_l hk).mono fun e W' ⟨he, bel⟩ => ?_
  subst he
  exact ⟨_, rfl, _, _, _, [], _, [], hW', trodAll_mk1 (shut_bool Try.underlying4 _), (trodAll_cons_mk (Below.trod laidOut (by kernel_rfl) (of_decide_eq_true (by kernel_rfl)) k0 bel lt0) (trodAll_cons_mk (Below.trod laidOut (by kernel_rfl) (of_decide_eq_true (by kernel_rfl)) k1 bel lt1) trodAll_mk0)), rfl, bel.frame _, fun h => by cases h⟩
theorem cf0 : (Rows.fhistEqualRow.wf (OpenSpec.ofChange Rows.fhistEqualSpec)) = true := by kernel_rfl
theorem cf1 : (laidOutB Try.prog) = true := P.head_laidOut
theorem cf2 : (mapsRowed Try.prog) = true := P.head_mapsRowed
theorem cf3 : (Try.f23.params.all (Try.prog.readableRec ·)) = true := by kernel_rfl
theorem cf4 : (namedTie Try.prog Rows.fhistEqualRow.named Rows.fhistEqualSpec.vars) = true := by kernel_rfl
theorem cf5 : ((Rows.fhistEqualRow.stops == [])) = true := by kernel_rfl
theorem cf6 : ((Try.prog.stops == [])) = true := P.head_stops
theorem cf7 : ((Rows.fhistEqualRow.knobs == [])) = true := by kernel_rfl
theorem cf8 : ((Try.prog.stopKnobs == [])) = true := P.head_stopKnobs
theorem cf9 : ((Rows.fhistEqualRow.inPlace == Try.prog.inPlace 23)) = true := by kernel_rfl
theorem cf10 : ((Rows.fhistEqualRow.unfollowed == Try.prog.unfollowed 23)) = true := by kernel_rfl
theorem cf11 : ((Rows.fhistEqualRow.recurses == Try.prog.recurses 23)) = true := by kernel_rfl
theorem cf12 : ((Rows.fhistEqualRow.named == Try.prog.varsNamed 23)) = true := by kernel_rfl
theorem cf13 : ((Rows.fhistEqualRow.maps == (Try.f23.params.toList ++ Rows.fhistEqualSpec.plain.varTypes Try.prog).any (Try.prog.mapsRec ·))) = true := by kernel_rfl
theorem cf14 : ((Rows.fhistEqualRow.ifaces == (Try.f23.params.toList ++ Rows.fhistEqualSpec.plain.varTypes Try.prog).any (Try.prog.ifacesRec ·))) = true := by kernel_rfl
theorem cf15 : ((Rows.fhistEqualRow.mapsOut == Try.prog.mapsAmong Try.f23.resultTypes.toList)) = true := by kernel_rfl
theorem cf16 : ((Rows.fhistEqualRow.loops == (Try.f23.params.toList ++ Rows.fhistEqualSpec.plain.varTypes Try.prog).any (Try.prog.loopsFrom ·))) = true := by kernel_rfl
theorem cf17 : ((Rows.fhistEqualRow.wideKeys == (Try.f23.params.toList ++ Rows.fhistEqualSpec.plain.varTypes Try.prog ++ Try.f23.resultTypes.toList).any (Try.prog.wideKeysFrom ·))) = true := by kernel_rfl
theorem cf18 : (Rows.fhistEqualSpec.vars.all (Try.prog.varReadable ·)) = true := by kernel_rfl
theorem cf19 : (Try.f23.resultTypes.all (fun t => Try.prog.readableRec t && decide (t < Try.prog.types.size))) = true := by kernel_rfl
theorem cf20 : ((Rows.fhistEqualRow.ifacesOut == Try.f23.resultTypes.toList.any (Try.prog.ifacesRec ·))) = true := by kernel_rfl
theorem cf21 : ((Rows.fhistEqualRow.loopsOut == Try.f23.resultTypes.toList.any (Try.prog.loopsFrom ·))) = true := by kernel_rfl
theorem cf22 : ((Rows.fhistEqualRow.plainKeys == Try.prog.plainKeys)) = true := by rw [P.head_plainKeys]; kernel_rfl
theorem cf23 : (Rows.fhistEqualRow.shortTexts.isNone) = true := by kernel_rfl
theorem cf24 : (Try.prog.stopsHeard) = true := P.head_stopsHeard
theorem cf25 : (Try.prog.mayEnter) = true := P.head_mayEnter
theorem cf26 : ((Rows.fhistEqualRow.lifted == Try.prog.liftsFinal)) = true := by rw [P.head_liftsFinal]; kernel_rfl
theorem cf27 : ((Try.prog.make == some Rows.fhistEqualRow.make)) = true := by rw [P.head_make]; kernel_rfl
theorem cf28 : ((Rows.fhistEqualRow.kinds == (if Rows.fhistEqualRow.domain.isEmpty then [] else Try.f23.params.toList.map fun t => match Try.prog.underlying t with | some (.int k) => some k | _ => none))) = true := by kernel_rfl
theorem cf29 : ((Rows.fhistEqualRow.pinned == Rows.fhistEqualRow.pinnedBy)) = true := by kernel_rfl
theorem cf30 : ((Rows.fhistEqualRow.veiled == (Try.f23.params.toList ++ Rows.fhistEqualSpec.plain.varTypes Try.prog ++ Try.f23.resultTypes.toList).any (Try.prog.veiledRec ·))) = true := by kernel_rfl
theorem cf31 : (Rows.fhistEqualRow.veiledFits Try.prog Try.f23.params.toList (Try.f23.params.toList ++ Rows.fhistEqualSpec.plain.varTypes Try.prog ++ Try.f23.resultTypes.toList)) = true := by kernel_rfl
theorem band_mk {a b : Bool} (h : a = true) (k : b = true) : (a && b) = true := by rw [h, k]; rfl
theorem closed : joinedFacts Try.prog 23 Try.f23 Rows.fhistEqualSpec Rows.fhistEqualRow = true := by unfold joinedFacts; exact (band_mk (band_mk (band_mk (band_mk (band_mk (band_mk (band_mk (band_mk (band_mk (band_mk (band_mk (band_mk (band_mk (band_mk (band_mk (band_mk (band_mk (band_mk (band_mk (band_mk (band_mk (band_mk (band_mk (band_mk (band_mk (band_mk (band_mk (band_mk (band_mk (band_mk (band_mk cf0 cf1) cf2) cf3) cf4) cf5) cf6) cf7) cf8) cf9) cf10) cf11) cf12) cf13) cf14) cf15) cf16) cf17) cf18) cf19) cf20) cf21) cf22) cf23) cf24) cf25) cf26) cf27) (by kernel_rfl)) cf29) cf30) cf31)
theorem over : Rows.fhistEqualRow.holds Try.pinned (OpenSpec.ofChange Rows.fhistEqualSpec) :=
  OpenClaim.holds_of_wide 23 Try.f23 rfl rfl rfl rfl rfl rfl rfl ⟨rfl, rfl, rfl, rfl, rfl⟩ rfl rfl rfl rfl rfl (by kernel_rfl) Try.func23 closed
    (of_decide_eq_true (by kernel_rfl)) (by unfold Func.isWrapper; first | (rw [if_pos (by decide +kernel)]; kernel_rfl) | (rw [if_neg (by decide +kernel)]; exact ⟨rfl, rfl⟩))
    (fun os started H enc _ => lifted os started H enc)
theorem proved : Rows.FhistEqualSaid := over
#print axioms proved
end Go.Proofs.Ytacgeafjilipdaa.fhistEqual
namespace Go.Proofs.Ytacgeafjilipdaa
theorem fhistEqual_holds : Rows.FhistEqualSaid := fhistEqual.proved
end Go.Proofs.Ytacgeafjilipdaa
