/- ResetBoth: the part that this text bears of the proof that the statement answers true for every input. No condition. -/
import Derived.Test.YtefiabakfpfbaaaProg
import Derived.Below
import Derived.Deep.Draws
import Derived.Deep.AppendLies
import Derived.Maps.AppendAt
import Derived.OwnWalk
import Derived.Laws.BytesArg
import Derived.Laws.MakeOwn
import Derived.Laws.OwnMore
import Derived.Deep.OwnRows
import Derived.Tactics
import Derived.Lib.ConvBytes
import Derived.Laws.Slices
import Derived.WalkKit
import Derived.KernelRfl
import Derived.RowKit3
import Derived.Deep.LoopGhost
import Derived.Deep.QuietTactic
import Derived.BigQuiet
import Derived.WideLaws
import Derived.Deep.DeepCutAuto
import Derived.Deep.CutBlock
import Derived.Deep.RegionHeld3
import Derived.Laws.Rows
import Derived.Lib.AppendStr
import Derived.ArgAppend
import Derived.Laws.IdiomCopy
import Derived.OrdersHeld
import Derived.Laws.BitsLemmas
import Derived.RowKit
import Derived.Shelf.Abstract
import Derived.WalkSpells
import Derived.RangeFuncNested
import Derived.RangeFuncBound
import Derived.RangeFuncCalls
import Derived.RangeFuncLeaves
import Derived.RangeFuncBox
import Derived.OwnWalkIn
import Derived.TacticsInMore
import Derived.LoopNIn
import Derived.LoopIn
import Derived.Deep.Slices
import Derived.ChangeArms
import Derived.Laws.Externs
import Derived.Shelf.Spec.BitsCarry
import Derived.RegionIn
import Derived.Sort.QuietTacIn
import Derived.Deep.RegionWith
import Derived.Laws.BitsAllLaws
import Derived.ProofKit
import Derived.JoinedOf
import Derived.OpenShut
import Derived.ShutString
import Derived.ChangeOld
import Derived.SizedLaws
import Derived.Test.YtefiabakfpfbaaaQResetBothWWords
import Derived.Test.YtefiabakfpfbaaaQResetBothWLast
import Derived.Test.YtefiabakfpfbaaaQResetBothWTab
import Derived.Test.YtefiabakfpfbaaaQResetBothWFour
import Derived.Test.YtefiabakfpfbaaaQResetBothWQPut
import Derived.Test.YtefiabakfpfbaaaQResetBothWApart
import Derived.Test.YtefiabakfpfbaaaQResetBothWArr
import Derived.Test.YtefiabakfpfbaaaQResetBothWZeros
import Derived.Test.YtefiabakfpfbaaaQResetBothWFoot
import Derived.Test.YtefiabakfpfbaaaQResetBothWKept
import Derived.Test.YtefiabakfpfbaaaQResetBothWShare
import Derived.Test.YtefiabakfpfbaaaQResetBothWN
import Derived.Test.YtefiabakfpfbaaaQResetBothWFootNe
import Derived.Test.YtefiabakfpfbaaaQResetBothWAt
import Derived.Test.YtefiabakfpfbaaaQResetBothWEqStruct
import Derived.Test.YtefiabakfpfbaaaQResetBothWRepsOne
import Derived.Test.YtefiabakfpfbaaaQResetBothWInv
import Derived.Test.YtefiabakfpfbaaaQResetBothWInvWords
import Derived.Test.YtefiabakfpfbaaaQResetBothWGuard
import Derived.Test.YtefiabakfpfbaaaQResetBothWNEv
import Derived.Test.YtefiabakfpfbaaaQResetBothWMore
import Derived.Test.YtefiabakfpfbaaaRows
import Derived.Test.YtefiabakfpfbaaaQResetBoth0
set_option linter.unusedVariables false
set_option linter.unusedSimpArgs false
namespace Go.Proofs.Ytefiabakfpfbaaa.P
open Go.RowKit Go.Proofs.YtefiabakfpfbaaaW.PrintWords Go.Proofs.YtefiabakfpfbaaaW.PrintLast Go.Proofs.YtefiabakfpfbaaaW.PrintMore
attribute [local go_sem] max2_int min2_int max_two min_two max_three min_three max_four min_four
mutual
def reset_less_int64.l0 : Nat → List (S130) → Int → List (S130) → Int → Int → Option (Int × Bool)
 | 0, _, _, _, _, _ => none
 | k + 1, x1, x6, x10, x11, x12 => if x12 < x11 then (if 0 ≤ x12 then (if x12 < (x10.length : Int) then (reset_less_int64.l1 k x1 x6 x10 x11 x12 ((rd_T130 x10 x12).f0) ((rd_T130 x10 x12).f1)) else (none)) else (none)) else (some (0, false))
def reset_less_int64.j2 : Nat → List (S130) → Int → List (S130) → Int → Int → Int → Int → Option (Int × Bool)
 | 0, _, _, _, _, _, _, _ => none
 | k + 1, x1, x6, x10, x11, x12, x103000, x103001 => if (x1.length : Int) > 0 then (if 0 < (x1.length : Int) then (reset_less_int64.j3 k x1 x6 x6 x10 x11 x12 (((rd_T130 x1 0).f0) == x103000) x103000 x103001) else (none)) else (reset_less_int64.j3 k x1 x6 x6 x10 x11 x12 false x103000 x103001)
def reset_less_int64.j3 : Nat → List (S130) → Int → Int → List (S130) → Int → Int → Bool → Int → Int → Option (Int × Bool)
 | 0, _, _, _, _, _, _, _, _, _ => none
 | k + 1, x1, x6, x9, x10, x11, x12, x42, x103000, x103001 => if x42 = true then (if 0 < (x1.length : Int) then (if ((rd_T130 x1 0).f1) < x103001 then (some (x103000, true)) else (reset_less_int64.l0 k x1 x6 x10 x11 (wrap64 (x12 + 1)))) else (none)) else (if x9 < x103001 then (some (x103000, true)) else (reset_less_int64.l0 k x1 x6 x10 x11 (wrap64 (x12 + 1))))
def reset_less_int64.l1 : Nat → List (S130) → Int → List (S130) → Int → Int → Int → Int → Option (Int × Bool)
 | 0, _, _, _, _, _, _, _ => none
 | k + 1, x1, x6, x10, x11, x12, x103000, x103001 => if (x1.length : Int) > 0 then (if 0 < (x1.length : Int) then (if ((rd_T130 x1 0).f0) < x103000 then (if 1 ≤ (x1.length : Int) then (reset_less_int64.l1 k (x1.drop 1) x6 x10 x11 x12 x103000 x103001) else (none)) else (reset_less_int64.j2 k x1 x6 x10 x11 x12 x103000 x103001)) else (none)) else (reset_less_int64.j2 k x1 x6 x10 x11 x12 x103000 x103001)
end
def reset_less_int64.f (k : Nat) (l0 : List (S130)) (l1 : List (S130)) : Option (Int × Bool) := reset_less_int64.l0 k l1 0 l0 (l0.length : Int) 0
set_option maxHeartbeats 8000000 in
set_option maxRecDepth 100000 in
theorem reset_less_int64.calls (k : Nat) (A0 : Option Addr) (c0 : Nat) (l0 : List (S130)) (P1_ : Nat → Prop) (A1 : Option Addr) (c1 : Nat) (l1 : List (S130)) (r1 : Int) (r2 : Bool) (w : World) (hr0 : Kd.C k130 w A0 l0.length l0) (hc0 : l0.length ≤ c0) (hs1 : Kd.V k130 130 w w.heap.size (fun k_ => P1_ k_) (.slice A1 l1.length c1) l1) (h : reset_less_int64.f k l0 l1 = some (r1, r2)) :
  Calls Try.prog 113 #[.slice A0 l0.length c0, .slice A1 l1.length c1] w fun e w' => e = .returned (.tuple #[.int .i64 r1, .bool r2]) ∧ Below w.heap.size w w' := by
 have hu130 := Try.underlying130
 have HR0 := Aside0.mk hr0
 have HC0 := Aside0.mk hc0
 clear hr0 hc0
 have HO1 := Aside0.mk (show Kd.V k130 130 w w.heap.size (fun k_ => (P1_ k_ ∨ w.heap.size ≤ k_)) (.slice A1 l1.length c1) l1 from Kd.V_mono hs1 (fun k_ hk => .inl hk))
 have HB := Aside0.mk (Below.refl w.heap.size w)
 have H : (reset_less_int64.l0 k l1 0 l0 (l0.length : Int) 0) = some (r1, r2) := h
 clear h
 have H' := Aside0.mk H
 clear H
 go_enter Try.func113, Try.ntmps113
 go_wp2
 repeat (go_quiet (fail); try go_wp2)
 go_loopg [1, 12] k (fun kq v1 v12 w' => ∃ (x1_1 : List (S130)) (x12_1 : Int), v12 = .int .i64 x12_1 ∧ Aside0 (reset_less_int64.l0 kq x1_1 0 l0 (l0.length : Int) x12_1 = some (r1, r2)) ∧ Aside0 (kq ≤ k) ∧ Aside0 (Kd.V k130 130 w' w.heap.size (fun k_ => (P1_ k_ ∨ w.heap.size ≤ k_)) v1 x1_1) ∧ Aside0 (Below w.heap.size w w'))
 case atStart => exact ⟨(l1), (0), (by first | rfl | (simp; done) | (simp [*]; done)), H', ⟨Nat.le_refl _⟩, ⟨by (with_reducible repeat (first | apply Kd.V_alloc | apply Kd.V_drewN | apply Kd.V_drew)); exact HO1.out⟩, ⟨by repeat (first | (with_reducible first | exact HB.out | apply below_alloc | apply pw_below_drewN | apply below_drew1) | exact HB.out)⟩⟩
 case round =>
  clear H'
  try clear c1
  try clear p2
  obtain ⟨x1_1, x12_1, rfl, HA, HK1, HO_1, HB⟩ := hrel
  cases gk with
  | zero => exact absurd HA.out (by simp [reset_less_int64.l0])
  | succ k1 =>
   have H := HA.out
   clear HA
   simp only [reset_less_int64.l0] at H
   by_cases c3 : x12_1 < (l0.length : Int)
   ·rw [if_pos c3] at H
    have c3b0 : decide (x12_1 < (l0.length : Int)) = true := decide_eq_true c3
    clear c3
    by_cases c4 : 0 ≤ x12_1
    ·rw [if_pos c4] at H
     have c4b0 : decide (0 ≤ x12_1) = true := decide_eq_true c4
     clear c4
     by_cases c5 : x12_1 < (l0.length : Int)
     ·rw [if_pos c5] at H
      have c5b0 : decide (x12_1 < (l0.length : Int)) = true := decide_eq_true c5
      clear c5
      have HC6 := Aside0.mk H
      clear H
      have p101 : 0 ≤ (x12_1 : Int) := of_decide_eq_true (by first | (with_reducible assumption) | assumption)
      have q101 : x12_1 < (l0.length : Int) := of_decide_eq_true (by first | (with_reducible assumption) | assumption)
      obtain ⟨ad101, e101, hx101_0, hx101_1⟩ := at_T130 HR0.out x12_1 p101 q101
      cases e101
      replace hx101_0 := (HB.out.cell (World.block_lt_of_cell? w _ hx101_0)).trans hx101_0
      replace hx101_1 := (HB.out.cell (World.block_lt_of_cell? w _ hx101_1)).trans hx101_1
      replace p101 := eq_true p101
      replace q101 := eq_true q101
      go_upto_block 2 with (first | ((with_reducible refine gate_dst (N := 8) rfl ?_); refine box_event ?hg (N := 8) ?hd (cs := #[.int .i64 0, .int .i64 0]) (t := 130) ?hr ?_; (case hd => rfl); (case hg => rfl); (case hr => first | (go_simp; done) | (go_simp; rfl)); intro gb102 hg w7 hbox hb; have n0_ := Aside0.mk (Kd.V_below (Kd.V_elderB (by (with_reducible repeat (first | apply Kd.V_alloc | apply Kd.V_drewN | apply Kd.V_drew)); exact HO_1.out) gb102 (Nat.le_of_eq hg.symm)) hb); have n1_ := Aside0.mk (below_step (by repeat (first | (with_reducible first | exact HB.out | apply below_alloc | apply pw_below_drewN | apply below_drew1) | exact HB.out)) hb); have n2_ := Aside0.mk (hbox); have n3_ := Aside0.mk ((by rw [hg]; exact (below_size (by repeat (first | (with_reducible first | exact HB.out | apply below_alloc | apply pw_below_drewN | apply below_drew1) | exact HB.out))) : w.heap.size ≤ gb102)); have n4_ := Aside0.mk ((by rw [hg]; exact (below_size (by repeat (first | (with_reducible first | exact HB.out | apply below_alloc | apply pw_below_drewN | apply below_drew1) | exact HB.out))) : w.heap.size ≤ gb102)); clear HO_1; clear HB; have HO_1 := n0_; have HB := n1_; have BK102 := n2_; have GW102 := n3_; have GE102 := n4_; clear n0_ n1_ n2_ n3_ n4_; clear hb hbox hg; have hcz8_0 : w7.cell? ⟨gb102, 0, none⟩ = some (.int .i64 0) := (blk_cell BK102.out 0).trans rfl; have hcz8_1 : w7.cell? ⟨gb102, 1, none⟩ = some (.int .i64 0) := (blk_cell BK102.out 1).trans rfl; have hfz8_0 := blk_frozen BK102.out 0; have hfz8_1 := blk_frozen BK102.out 1))
      repeat (go_quiet (first | ((with_reducible refine gate_dst (N := 8) rfl ?_); refine box_event ?hg (N := 8) ?hd (cs := #[.int .i64 0, .int .i64 0]) (t := 130) ?hr ?_; (case hd => rfl); (case hg => rfl); (case hr => first | (go_simp; done) | (go_simp; rfl)); intro gb102 hg w7 hbox hb; have n0_ := Aside0.mk (Kd.V_below (Kd.V_elderB (by (with_reducible repeat (first | apply Kd.V_alloc | apply Kd.V_drewN | apply Kd.V_drew)); exact HO_1.out) gb102 (Nat.le_of_eq hg.symm)) hb); have n1_ := Aside0.mk (below_step (by repeat (first | (with_reducible first | exact HB.out | apply below_alloc | apply pw_below_drewN | apply below_drew1) | exact HB.out)) hb); have n2_ := Aside0.mk (hbox); have n3_ := Aside0.mk ((by rw [hg]; exact (below_size (by repeat (first | (with_reducible first | exact HB.out | apply below_alloc | apply pw_below_drewN | apply below_drew1) | exact HB.out))) : w.heap.size ≤ gb102)); have n4_ := Aside0.mk ((by rw [hg]; exact (below_size (by repeat (first | (with_reducible first | exact HB.out | apply below_alloc | apply pw_below_drewN | apply below_drew1) | exact HB.out))) : w.heap.size ≤ gb102)); clear HO_1; clear HB; have HO_1 := n0_; have HB := n1_; have BK102 := n2_; have GW102 := n3_; have GE102 := n4_; clear n0_ n1_ n2_ n3_ n4_; clear hb hbox hg; have hcz8_0 : w7.cell? ⟨gb102, 0, none⟩ = some (.int .i64 0) := (blk_cell BK102.out 0).trans rfl; have hcz8_1 : w7.cell? ⟨gb102, 1, none⟩ = some (.int .i64 0) := (blk_cell BK102.out 1).trans rfl; have hfz8_0 := blk_frozen BK102.out 0; have hfz8_1 := blk_frozen BK102.out 1)); go_upto_block 2 with (first | ((with_reducible refine gate_dst (N := 8) rfl ?_); refine box_event ?hg (N := 8) ?hd (cs := #[.int .i64 0, .int .i64 0]) (t := 130) ?hr ?_; (case hd => rfl); (case hg => rfl); (case hr => first | (go_simp; done) | (go_simp; rfl)); intro gb102 hg w7 hbox hb; have n0_ := Aside0.mk (Kd.V_below (Kd.V_elderB (by (with_reducible repeat (first | apply Kd.V_alloc | apply Kd.V_drewN | apply Kd.V_drew)); exact HO_1.out) gb102 (Nat.le_of_eq hg.symm)) hb); have n1_ := Aside0.mk (below_step (by repeat (first | (with_reducible first | exact HB.out | apply below_alloc | apply pw_below_drewN | apply below_drew1) | exact HB.out)) hb); have n2_ := Aside0.mk (hbox); have n3_ := Aside0.mk ((by rw [hg]; exact (below_size (by repeat (first | (with_reducible first | exact HB.out | apply below_alloc | apply pw_below_drewN | apply below_drew1) | exact HB.out))) : w.heap.size ≤ gb102)); have n4_ := Aside0.mk ((by rw [hg]; exact (below_size (by repeat (first | (with_reducible first | exact HB.out | apply below_alloc | apply pw_below_drewN | apply below_drew1) | exact HB.out))) : w.heap.size ≤ gb102)); clear HO_1; clear HB; have HO_1 := n0_; have HB := n1_; have BK102 := n2_; have GW102 := n3_; have GE102 := n4_; clear n0_ n1_ n2_ n3_ n4_; clear hb hbox hg; have hcz8_0 : w7.cell? ⟨gb102, 0, none⟩ = some (.int .i64 0) := (blk_cell BK102.out 0).trans rfl; have hcz8_1 : w7.cell? ⟨gb102, 1, none⟩ = some (.int .i64 0) := (blk_cell BK102.out 1).trans rfl; have hfz8_0 := blk_frozen BK102.out 0; have hfz8_1 := blk_frozen BK102.out 1)))
      (try simp only [Act.put, List.setIfInBounds_toArray, List.set_cons_zero, List.set_cons_succ])
      go_cut [1] (fun v1 wc => ∃ (kq : Nat) (x1_5 : List (S130)), Aside0 (reset_less_int64.j2 kq x1_5 0 l0 (l0.length : Int) x12_1 ((rd_T130 l0 x12_1).f0) ((rd_T130 l0 x12_1).f1) = some (r1, r2)) ∧ Aside0 (kq ≤ k1) ∧ Aside0 (Kd.V k130 130 wc w.heap.size (fun k_ => (P1_ k_ ∨ w.heap.size ≤ k_) ∧ k_ ≠ gb102) v1 x1_5) ∧ Aside0 (wc.heap[gb102]? = some (.cells #[.int .i64 ((rd_T130 l0 x12_1).f0), .int .i64 ((rd_T130 l0 x12_1).f1)] 130 (0, 0))) ∧ Aside0 (Below w.heap.size w wc))
      case first =>
       have H := HC6.out
       clear HC6
       have H' := Aside0.mk H
       clear H
       go_wp2
       repeat (go_quiet (fail); try go_wp2)
       go_loopg [1] k1 (fun kq v1 w' => ∃ (x1_2 : List (S130)), Aside0 (reset_less_int64.l1 kq x1_2 0 l0 (l0.length : Int) x12_1 ((rd_T130 l0 x12_1).f0) ((rd_T130 l0 x12_1).f1) = some (r1, r2)) ∧ Aside0 (kq ≤ k1) ∧ Aside0 (Kd.V k130 130 w' w.heap.size (fun k_ => (P1_ k_ ∨ w.heap.size ≤ k_) ∧ k_ ≠ gb102) v1 x1_2) ∧ Aside0 (w'.heap[gb102]? = some (.cells #[.int .i64 ((rd_T130 l0 x12_1).f0), .int .i64 ((rd_T130 l0 x12_1).f1)] 130 (0, 0))) ∧ Aside0 (Below w.heap.size w w'))
       case atStart => exact ⟨(x1_1), H', ⟨Nat.le_refl _⟩, ⟨by (with_reducible repeat (first | apply Kd.V_alloc | apply Kd.V_drewN | apply Kd.V_drew)); exact Kd.V_mono (Kd.V_far (p := ⟨gb102, 1, none⟩) (Kd.V_far (p := ⟨gb102, 0, none⟩) (Kd.V_mono HO_1.out (fun k_ hk => (⟨hk, hk.2⟩ : _ ∧ k_ ≠ gb102))) (fun _ hk => hk.2) (.int .i64 ((rd_T130 l0 x12_1).f0))) (fun _ hk => hk.2) (.int .i64 ((rd_T130 l0 x12_1).f1))) (fun _ hk => ⟨hk.1.1, hk.1.2⟩)⟩, ⟨by (with_reducible repeat (first | refine blk_drewN ?_ _ | refine blk_drew ?_ | refine blk_alloc ?_ _)); refine blk_put (cs := #[.int .i64 ((rd_T130 l0 x12_1).f0), .int .i64 0]) ?_ 1 _ rfl; (with_reducible repeat (first | refine blk_drewN ?_ _ | refine blk_drew ?_ | refine blk_alloc ?_ _)); refine blk_put (cs := #[.int .i64 0, .int .i64 0]) ?_ 0 _ rfl; (with_reducible repeat (first | refine blk_drewN ?_ _ | refine blk_drew ?_ | refine blk_alloc ?_ _)); exact BK102.out⟩, ⟨by repeat (first | (with_reducible first | exact HB.out | apply below_alloc | apply pw_below_drewN | apply below_drew1 | refine below_set ?_ GE102.out) | exact HB.out)⟩⟩
       case round =>
        clear H'
        try clear c1
        try clear p1
        try clear q1
        try clear hx1
        try clear p2
        try clear c3
        try clear c3b0
        try clear c4
        try clear c4b0
        try clear c5
        try clear c5b0
        try clear hcz8_0
        try clear hcz8_1
        try clear hfz8_0
        try clear hfz8_1
        try clear hx101_0
        try clear hx101_1
        try clear p101
        try clear p2
        try clear q101
        obtain ⟨x1_2, HA, HK2, HO_1, BK102, HB⟩ := hrel
        cases gk with
        | zero => exact absurd HA.out (by simp [reset_less_int64.l1])
        | succ k2 =>
         have H := HA.out
         clear HA
         simp only [reset_less_int64.l1] at H
         by_cases c9 : (x1_2.length : Int) > 0
         ·rw [if_pos c9] at H
          have c9b0 : decide (0 < (x1_2.length : Int)) = true := decide_eq_true c9
          have c9b1 : decide (0 < x1_2.length) = true := decide_eq_true (by omega)
          clear c9
          (first | rw [c9b0] | (simp only [i64_w, i32_w]; rw [c9b0]) | skip)
          by_cases c10 : 0 < (x1_2.length : Int)
          ·rw [if_pos c10] at H
           have c10b0 : decide (0 < (x1_2.length : Int)) = true := decide_eq_true c10
           have c10b1 : decide (0 < x1_2.length) = true := decide_eq_true (by omega)
           clear c10
           by_cases c11 : ((rd_T130 x1_2 0).f0) < ((rd_T130 l0 x12_1).f0)
           ·rw [if_pos c11] at H
            have c11b0 : decide (((rd_T130 x1_2 0).f0) < ((rd_T130 l0 x12_1).f0)) = true := decide_eq_true c11
            clear c11
            by_cases c12 : 1 ≤ (x1_2.length : Int)
            ·rw [if_pos c12] at H
             have c12b0 := eq_true c12
             have c12b1 : decide (1 ≤ (x1_2.length : Int)) = true := decide_eq_true c12
             clear c12
             obtain ⟨y104, hy104⟩ : ∃ y_ : List (S130), y_ = (x1_2.drop 1) := ⟨_, rfl⟩
             replace H : (reset_less_int64.l1 k2 y104 0 l0 (l0.length : Int) x12_1 ((rd_T130 l0 x12_1).f0) ((rd_T130 l0 x12_1).f1)) = some (r1, r2) := by first | (rw [hy104]; with_reducible exact H) | (have H2_ := (Option.bind_some _ _).symm.trans H; rw [hy104]; with_reducible exact H2_) | (have H2_ := (Option.bind_some _ _).symm.trans H; with_reducible exact H2_) | with_reducible exact H | (rw [hy104]; exact H) | exact H
             have Ny104 := Aside0.mk hy104
             clear hy104
             have H' := Aside0.mk H
             clear H
             obtain ⟨Ao13, co13, eo13⟩ := Kd.V_slice HO_1.out
             subst eo13
             have p103 : 0 ≤ (0 : Int) := (by omega)
             have q103 : 0 < (x1_2.length : Int) := of_decide_eq_true (by first | (with_reducible assumption) | assumption)
             obtain ⟨ad103, e103, hx103_0, hx103_1⟩ := at_T130 (Kd.V_reads' HO_1.out).2.2 0 p103 q103
             cases e103
             have qi103 : (0 < x1_2.length) = True := eq_true (by omega)
             (try rw [show ((0 : Int)).toNat = 0 from rfl] at hx103_0)
             (try rw [show 0 * 2 = 0 from rfl] at hx103_0)
             (try rw [Addr.add_zero'] at hx103_0)
             (try rw [show ((0 : Int)).toNat = 0 from rfl] at hx103_1)
             (try rw [show 0 * 2 = 0 from rfl] at hx103_1)
             (try rw [Addr.add_zero'] at hx103_1)
             replace p103 := eq_true p103
             replace q103 := eq_true q103
             have hcz14_0 : wr.cell? ⟨gb102, 0, none⟩ = some (.int .i64 ((rd_T130 l0 x12_1).f0)) := (blk_cell BK102.out 0).trans rfl
             have hcz14_1 : wr.cell? ⟨gb102, 1, none⟩ = some (.int .i64 ((rd_T130 l0 x12_1).f1)) := (blk_cell BK102.out 1).trans rfl
             have hfz14_0 := blk_frozen BK102.out 0
             have hfz14_1 := blk_frozen BK102.out 1
             have q15 : (1 : Int) ≤ ((x1_2.length : Int) : Int) := of_decide_eq_true (by first | (with_reducible assumption) | assumption)
             obtain ⟨i015, hi015, _, hsz15, _⟩ := info_parts info130
             have hroom15 : x1_2.length ≤ co13 := (Kd.V_reads' HO_1.out).2.1
             have hC15 : Kd.F k130 _ _ (some ad103) x1_2.length x1_2 := (Kd.V_at (base := w.heap.size) HO_1.out).2.2
             have hcut15 := cut_from (P := Try.prog) 114 130 .i64 Try.underlying114 hi015 2 hsz15 (some ad103) x1_2.length co13 1 (by omega) q15
             have hr15 := Kd.F_cut (m := (1 : Int).toNat) (c := co13) hC15 (by omega) hroom15
             obtain ⟨A15, hA15⟩ : ∃ A1, A1 = (if co13 = (1 : Int).toNat then (some ad103) else ((some ad103) : Option Addr).map (·.add ((1 : Int).toNat * 2))) := ⟨_, rfl⟩
             obtain ⟨c15, hc15⟩ : ∃ c1, c1 = co13 - (1 : Int).toNat := ⟨_, rfl⟩
             have hy15 : y104.length = x1_2.length - (1 : Int).toNat := (by rw [Ny104.out, List.length_drop] <;> omega)
             rw [show (x1_2).drop (1 : Int).toNat = y104 from Ny104.out.symm] at hr15
             replace hr15 : Kd.F k130 _ _ A15 y104.length y104 := (by rw [hA15]; exact hr15)
             rw [← hy15, ← hA15, ← hc15] at hcut15
             have HO108 := Aside0.mk (show Kd.V k130 130 _ w.heap.size _ (.slice A15 y104.length c15) y104 from Kd.V_mk (by rw [hy15, hc15]; exact Nat.sub_le_sub_right hroom15 _) hr15)
             have HC108 := Aside0.mk (show y104.length ≤ c15 from by rw [hy15, hc15]; exact Nat.sub_le_sub_right hroom15 _)
             clear hr15 hC15 hroom15 hi015 hsz15 hc15
             have KY15 := Aside0.mk hy15
             have KA15 := Aside0.mk hA15
             clear hy15 hA15
             replace q15 := eq_true q15
             go_wp2
             repeat (go_quiet (fail); try go_wp2)
             go_roundg k2
             case measure => have := HK1.out; have := HK2.out; omega
             case rel => exact ⟨(y104), H', ⟨by have := HK1.out; have := HK2.out; omega⟩, ⟨by (with_reducible repeat (first | apply Kd.V_alloc | apply Kd.V_drewN | apply Kd.V_drew)); exact HO108.out⟩, ⟨by (with_reducible repeat (first | refine blk_drewN ?_ _ | refine blk_drew ?_ | refine blk_alloc ?_ _)); exact BK102.out⟩, ⟨by repeat (first | (with_reducible first | exact HB.out | apply below_alloc | apply pw_below_drewN | apply below_drew1 | refine below_set ?_ GE102.out) | exact HB.out)⟩⟩
            ·rw [if_neg c12] at H
             exact absurd H (by simp)
           ·rw [if_neg c11] at H
            have c11b0 : decide (((rd_T130 x1_2 0).f0) < ((rd_T130 l0 x12_1).f0)) = false := decide_eq_false c11
            clear c11
            have H' := Aside0.mk H
            clear H
            obtain ⟨Ao16, co16, eo16⟩ := Kd.V_slice HO_1.out
            subst eo16
            have p103 : 0 ≤ (0 : Int) := (by omega)
            have q103 : 0 < (x1_2.length : Int) := of_decide_eq_true (by first | (with_reducible assumption) | assumption)
            obtain ⟨ad103, e103, hx103_0, hx103_1⟩ := at_T130 (Kd.V_reads' HO_1.out).2.2 0 p103 q103
            cases e103
            have qi103 : (0 < x1_2.length) = True := eq_true (by omega)
            (try rw [show ((0 : Int)).toNat = 0 from rfl] at hx103_0)
            (try rw [show 0 * 2 = 0 from rfl] at hx103_0)
            (try rw [Addr.add_zero'] at hx103_0)
            (try rw [show ((0 : Int)).toNat = 0 from rfl] at hx103_1)
            (try rw [show 0 * 2 = 0 from rfl] at hx103_1)
            (try rw [Addr.add_zero'] at hx103_1)
            replace p103 := eq_true p103
            replace q103 := eq_true q103
            have hcz17_0 : wr.cell? ⟨gb102, 0, none⟩ = some (.int .i64 ((rd_T130 l0 x12_1).f0)) := (blk_cell BK102.out 0).trans rfl
            have hcz17_1 : wr.cell? ⟨gb102, 1, none⟩ = some (.int .i64 ((rd_T130 l0 x12_1).f1)) := (blk_cell BK102.out 1).trans rfl
            have hfz17_0 := blk_frozen BK102.out 0
            have hfz17_1 := blk_frozen BK102.out 1
            go_wp2
            repeat (go_quiet (fail); try go_wp2)
            go_meet
            case rel => exact ⟨_, (x1_2), H', ⟨by have := HK1.out; have := HK2.out; first | omega | exact Nat.le_refl _⟩, ⟨by (with_reducible repeat (first | apply Kd.V_alloc | apply Kd.V_drewN | apply Kd.V_drew)); exact HO_1.out⟩, ⟨by (with_reducible repeat (first | refine blk_drewN ?_ _ | refine blk_drew ?_ | refine blk_alloc ?_ _)); exact BK102.out⟩, ⟨by repeat (first | (with_reducible first | exact HB.out | apply below_alloc | apply pw_below_drewN | apply below_drew1 | refine below_set ?_ GE102.out) | exact HB.out)⟩⟩
          ·rw [if_neg c10] at H
           exact absurd H (by simp)
         ·rw [if_neg c9] at H
          have c9b0 : decide (0 < (x1_2.length : Int)) = false := decide_eq_false c9
          have c9b1 : decide (0 < x1_2.length) = false := decide_eq_false (by omega)
          clear c9
          (first | rw [c9b0] | (simp only [i64_w, i32_w]; rw [c9b0]) | skip)
          have H' := Aside0.mk H
          clear H
          obtain ⟨Ao18, co18, eo18⟩ := Kd.V_slice HO_1.out
          subst eo18
          go_wp2
          repeat (go_quiet (fail); try go_wp2)
          go_meet
          case rel => exact ⟨_, (x1_2), H', ⟨by have := HK1.out; have := HK2.out; first | omega | exact Nat.le_refl _⟩, ⟨by (with_reducible repeat (first | apply Kd.V_alloc | apply Kd.V_drewN | apply Kd.V_drew)); exact HO_1.out⟩, ⟨by (with_reducible repeat (first | refine blk_drewN ?_ _ | refine blk_drew ?_ | refine blk_alloc ?_ _)); exact BK102.out⟩, ⟨by repeat (first | (with_reducible first | exact HB.out | apply below_alloc | apply pw_below_drewN | apply below_drew1 | refine below_set ?_ GE102.out) | exact HB.out)⟩⟩
      case rest =>
       clear HC6
       try clear c1
       try clear p1
       try clear q1
       try clear hx1
       try clear qi1
       try clear p2
       try clear c3
       try clear c3b0
       try clear c4
       try clear c4b0
       try clear c5
       try clear c5b0
       try clear c9
       try clear c9b0
       try clear c9b1
       try clear c10
       try clear c10b0
       try clear c10b1
       try clear p10
       try clear q10
       try clear hx10
       try clear qi10
       try clear c11
       try clear c11b0
       try clear c12
       try clear c12b0
       try clear c12b1
       try clear c15
       try clear q15
       try clear hcz14_0
       try clear hcz14_1
       try clear hcz17_0
       try clear hcz17_1
       try clear hcz8_0
       try clear hcz8_1
       try clear hfz14_0
       try clear hfz14_1
       try clear hfz17_0
       try clear hfz17_1
       try clear hfz8_0
       try clear hfz8_1
       try clear hx101_0
       try clear hx101_1
       try clear hx103_0
       try clear hx103_1
       try clear p1
       try clear p101
       try clear p103
       try clear p2
       try clear q1
       try clear q101
       try clear q103
       try clear q15
       obtain ⟨kq, x1_5, HA, HJ5, HO_1, BK102, HB⟩ := hcut
       cases kq with
       | zero => exact absurd HA.out (by simp [reset_less_int64.j2])
       | succ kj5 =>
        have H := HA.out
        clear HA
        simp only [reset_less_int64.j2] at H
        have HC19 := Aside0.mk H
        clear H
        go_upto_region 8 with (fail)
        repeat (go_quiet (fail); go_upto_region 8 with (fail))
        go_cut [42] (fun v42 wc => ∃ (kq : Nat) (x42_18 : Bool), v42 = .bool x42_18 ∧ Aside0 (reset_less_int64.j3 kq x1_5 0 0 l0 (l0.length : Int) x12_1 x42_18 ((rd_T130 l0 x12_1).f0) ((rd_T130 l0 x12_1).f1) = some (r1, r2)) ∧ Aside0 (kq ≤ kj5) ∧ Aside0 (Kd.V k130 130 wc w.heap.size (fun k_ => (P1_ k_ ∨ w.heap.size ≤ k_) ∧ k_ ≠ gb102) u1 x1_5) ∧ Aside0 (wc.heap[gb102]? = some (.cells #[.int .i64 ((rd_T130 l0 x12_1).f0), .int .i64 ((rd_T130 l0 x12_1).f1)] 130 (0, 0))) ∧ Aside0 (Below w.heap.size w wc))
        case first =>
         have H := HC19.out
         clear HC19
         by_cases c20 : (x1_5.length : Int) > 0
         ·rw [if_pos c20] at H
          have c20b0 : decide (0 < (x1_5.length : Int)) = true := decide_eq_true c20
          have c20b1 : decide (0 < x1_5.length) = true := decide_eq_true (by omega)
          clear c20
          (first | rw [c20b0] | (simp only [i64_w, i32_w]; rw [c20b0]) | skip)
          by_cases c21 : 0 < (x1_5.length : Int)
          ·rw [if_pos c21] at H
           have c21b0 : decide (0 < (x1_5.length : Int)) = true := decide_eq_true c21
           have c21b1 : decide (0 < x1_5.length) = true := decide_eq_true (by omega)
           clear c21
           have H' := Aside0.mk H
           clear H
           obtain ⟨Ao22, co22, eo22⟩ := Kd.V_slice HO_1.out
           subst eo22
           have p109 : 0 ≤ (0 : Int) := (by omega)
           have q109 : 0 < (x1_5.length : Int) := of_decide_eq_true (by first | (with_reducible assumption) | assumption)
           obtain ⟨ad109, e109, hx109_0, hx109_1⟩ := at_T130 (Kd.V_reads' HO_1.out).2.2 0 p109 q109
           cases e109
           have qi109 : (0 < x1_5.length) = True := eq_true (by omega)
           (try rw [show ((0 : Int)).toNat = 0 from rfl] at hx109_0)
           (try rw [show 0 * 2 = 0 from rfl] at hx109_0)
           (try rw [Addr.add_zero'] at hx109_0)
           (try rw [show ((0 : Int)).toNat = 0 from rfl] at hx109_1)
           (try rw [show 0 * 2 = 0 from rfl] at hx109_1)
           (try rw [Addr.add_zero'] at hx109_1)
           replace p109 := eq_true p109
           replace q109 := eq_true q109
           have hcz23_0 : wc.cell? ⟨gb102, 0, none⟩ = some (.int .i64 ((rd_T130 l0 x12_1).f0)) := (blk_cell BK102.out 0).trans rfl
           have hcz23_1 : wc.cell? ⟨gb102, 1, none⟩ = some (.int .i64 ((rd_T130 l0 x12_1).f1)) := (blk_cell BK102.out 1).trans rfl
           have hfz23_0 := blk_frozen BK102.out 0
           have hfz23_1 := blk_frozen BK102.out 1
           go_wp2
           repeat (go_quiet (fail); try go_wp2)
           go_meet
           case rel => exact ⟨_, ((((rd_T130 x1_5 0).f0) == ((rd_T130 l0 x12_1).f0))), (by first | rfl | (simp; done) | (simp [*]; done)), H', ⟨by have := HK1.out; have := HJ5.out; first | omega | exact Nat.le_refl _⟩, ⟨by (with_reducible repeat (first | apply Kd.V_alloc | apply Kd.V_drewN | apply Kd.V_drew)); exact HO_1.out⟩, ⟨by (with_reducible repeat (first | refine blk_drewN ?_ _ | refine blk_drew ?_ | refine blk_alloc ?_ _)); exact BK102.out⟩, ⟨by repeat (first | (with_reducible first | exact HB.out | apply below_alloc | apply pw_below_drewN | apply below_drew1 | refine below_set ?_ GE102.out) | exact HB.out)⟩⟩
          ·rw [if_neg c21] at H
           exact absurd H (by simp)
         ·rw [if_neg c20] at H
          have c20b0 : decide (0 < (x1_5.length : Int)) = false := decide_eq_false c20
          have c20b1 : decide (0 < x1_5.length) = false := decide_eq_false (by omega)
          clear c20
          (first | rw [c20b0] | (simp only [i64_w, i32_w]; rw [c20b0]) | skip)
          have H' := Aside0.mk H
          clear H
          obtain ⟨Ao24, co24, eo24⟩ := Kd.V_slice HO_1.out
          subst eo24
          go_wp2
          repeat (go_quiet (fail); try go_wp2)
          go_meet
          case rel => exact ⟨_, (false), (by first | rfl | (simp; done) | (simp [*]; done)), H', ⟨by have := HK1.out; have := HJ5.out; first | omega | exact Nat.le_refl _⟩, ⟨by (with_reducible repeat (first | apply Kd.V_alloc | apply Kd.V_drewN | apply Kd.V_drew)); exact HO_1.out⟩, ⟨by (with_reducible repeat (first | refine blk_drewN ?_ _ | refine blk_drew ?_ | refine blk_alloc ?_ _)); exact BK102.out⟩, ⟨by repeat (first | (with_reducible first | exact HB.out | apply below_alloc | apply pw_below_drewN | apply below_drew1 | refine below_set ?_ GE102.out) | exact HB.out)⟩⟩
        case rest =>
         clear HC19
         try clear c1
         try clear p1
         try clear q1
         try clear hx1
         try clear qi1
         try clear c2
         try clear p2
         try clear c3
         try clear c3b0
         try clear c4
         try clear c4b0
         try clear c5
         try clear c5b0
         try clear c9
         try clear c9b0
         try clear c9b1
         try clear c10
         try clear c10b0
         try clear c10b1
         try clear p10
         try clear q10
         try clear hx10
         try clear qi10
         try clear c11
         try clear c11b0
         try clear c12
         try clear c12b0
         try clear c12b1
         try clear c15
         try clear q15
         try clear c20
         try clear c20b0
         try clear c20b1
         try clear c21
         try clear c21b0
         try clear c21b1
         try clear hcz14_0
         try clear hcz14_1
         try clear hcz17_0
         try clear hcz17_1
         try clear hcz23_0
         try clear hcz23_1
         try clear hcz8_0
         try clear hcz8_1
         try clear hfz14_0
         try clear hfz14_1
         try clear hfz17_0
         try clear hfz17_1
         try clear hfz23_0
         try clear hfz23_1
         try clear hfz8_0
         try clear hfz8_1
         try clear hx101_0
         try clear hx101_1
         try clear hx103_0
         try clear hx103_1
         try clear hx109_0
         try clear hx109_1
         try clear p1
         try clear p10
         try clear p101
         try clear p103
         try clear p109
         try clear p2
         try clear q1
         try clear q10
         try clear q101
         try clear q103
         try clear q109
         try clear q15
         obtain ⟨kq, x42_18, rfl, HA, HJ18, HO_1, BK102, HB⟩ := hcut
         cases kq with
         | zero => exact absurd HA.out (by simp [reset_less_int64.j3])
         | succ kj18 =>
          have H := HA.out
          clear HA
          simp only [reset_less_int64.j3] at H
          by_cases c25 : x42_18 = true
          ·subst c25
           have H1 : (if 0 < (x1_5.length : Int) then (if ((rd_T130 x1_5 0).f1) < ((rd_T130 l0 x12_1).f1) then (some (((rd_T130 l0 x12_1).f0), true)) else (reset_less_int64.l0 kj18 x1_5 0 l0 (l0.length : Int) (wrap64 (x12_1 + 1)))) else (none)) = some (r1, r2) := by rw [if_pos rfl] at H; exact H
           clear H
           have H := H1
           clear H1
           by_cases c26 : 0 < (x1_5.length : Int)
           ·rw [if_pos c26] at H
            have c26b0 : decide (0 < (x1_5.length : Int)) = true := decide_eq_true c26
            have c26b1 : decide (0 < x1_5.length) = true := decide_eq_true (by omega)
            clear c26
            by_cases c27 : ((rd_T130 x1_5 0).f1) < ((rd_T130 l0 x12_1).f1)
            ·rw [if_pos c27] at H
             have c27b0 : decide (((rd_T130 x1_5 0).f1) < ((rd_T130 l0 x12_1).f1)) = true := decide_eq_true c27
             clear c27
             simp only [Option.some.injEq, Prod.mk.injEq] at H
             obtain ⟨rfl, rfl⟩ := H
             obtain ⟨Ao28, co28, eo28⟩ := Kd.V_slice HO_1.out
             subst eo28
             have p110 : 0 ≤ (0 : Int) := (by omega)
             have q110 : 0 < (x1_5.length : Int) := of_decide_eq_true (by first | (with_reducible assumption) | assumption)
             obtain ⟨ad110, e110, hx110_0, hx110_1⟩ := at_T130 (Kd.V_reads' HO_1.out).2.2 0 p110 q110
             cases e110
             have qi110 : (0 < x1_5.length) = True := eq_true (by omega)
             (try rw [show ((0 : Int)).toNat = 0 from rfl] at hx110_0)
             (try rw [show 0 * 2 = 0 from rfl] at hx110_0)
             (try rw [Addr.add_zero'] at hx110_0)
             (try rw [show ((0 : Int)).toNat = 0 from rfl] at hx110_1)
             (try rw [show 0 * 2 = 0 from rfl] at hx110_1)
             (try rw [Addr.add_zero'] at hx110_1)
             replace p110 := eq_true p110
             replace q110 := eq_true q110
             have hcz29_0 : wc.cell? ⟨gb102, 0, none⟩ = some (.int .i64 ((rd_T130 l0 x12_1).f0)) := (blk_cell BK102.out 0).trans rfl
             have hcz29_1 : wc.cell? ⟨gb102, 1, none⟩ = some (.int .i64 ((rd_T130 l0 x12_1).f1)) := (blk_cell BK102.out 1).trans rfl
             have hfz29_0 := blk_frozen BK102.out 0
             have hfz29_1 := blk_frozen BK102.out 1
             go_wp2
             repeat (go_quiet (fail); try go_wp2)
             go_ret2
             exact ⟨by first | rfl | (simp [errW_none, errW_some] <;> rfl) | (simp [*, errW_none, errW_some] <;> rfl), by repeat (first | (with_reducible first | exact HB.out | apply below_alloc | apply pw_below_drewN | apply below_drew1 | refine below_set ?_ GE102.out) | exact HB.out)⟩
            ·rw [if_neg c27] at H
             have c27b0 : decide (((rd_T130 x1_5 0).f1) < ((rd_T130 l0 x12_1).f1)) = false := decide_eq_false c27
             clear c27
             have H' := Aside0.mk H
             clear H
             obtain ⟨Ao30, co30, eo30⟩ := Kd.V_slice HO_1.out
             subst eo30
             have p110 : 0 ≤ (0 : Int) := (by omega)
             have q110 : 0 < (x1_5.length : Int) := of_decide_eq_true (by first | (with_reducible assumption) | assumption)
             obtain ⟨ad110, e110, hx110_0, hx110_1⟩ := at_T130 (Kd.V_reads' HO_1.out).2.2 0 p110 q110
             cases e110
             have qi110 : (0 < x1_5.length) = True := eq_true (by omega)
             (try rw [show ((0 : Int)).toNat = 0 from rfl] at hx110_0)
             (try rw [show 0 * 2 = 0 from rfl] at hx110_0)
             (try rw [Addr.add_zero'] at hx110_0)
             (try rw [show ((0 : Int)).toNat = 0 from rfl] at hx110_1)
             (try rw [show 0 * 2 = 0 from rfl] at hx110_1)
             (try rw [Addr.add_zero'] at hx110_1)
             replace p110 := eq_true p110
             replace q110 := eq_true q110
             have hcz31_0 : wc.cell? ⟨gb102, 0, none⟩ = some (.int .i64 ((rd_T130 l0 x12_1).f0)) := (blk_cell BK102.out 0).trans rfl
             have hcz31_1 : wc.cell? ⟨gb102, 1, none⟩ = some (.int .i64 ((rd_T130 l0 x12_1).f1)) := (blk_cell BK102.out 1).trans rfl
             have hfz31_0 := blk_frozen BK102.out 0
             have hfz31_1 := blk_frozen BK102.out 1
             go_wp2
             repeat (go_quiet (fail); try go_wp2)
             go_roundg kj18
             case measure => have := HK1.out; have := HJ5.out; have := HJ18.out; omega
             case rel => exact ⟨(x1_5), (wrap64 (x12_1 + 1)), (by first | rfl | (simp; done) | (simp [*]; done)), H', ⟨by have := HK1.out; have := HJ5.out; have := HJ18.out; omega⟩, ⟨by (with_reducible repeat (first | apply Kd.V_alloc | apply Kd.V_drewN | apply Kd.V_drew)); exact Kd.V_mono HO_1.out (fun _ hk => hk.1)⟩, ⟨by repeat (first | (with_reducible first | exact HB.out | apply below_alloc | apply pw_below_drewN | apply below_drew1 | refine below_set ?_ GE102.out) | exact HB.out)⟩⟩
           ·rw [if_neg c26] at H
            exact absurd H (by simp)
          ·replace c25 := Bool.eq_false_iff.mpr c25
           subst c25
           have H1 : (if 0 < ((rd_T130 l0 x12_1).f1) then (some (((rd_T130 l0 x12_1).f0), true)) else (reset_less_int64.l0 kj18 x1_5 0 l0 (l0.length : Int) (wrap64 (x12_1 + 1)))) = some (r1, r2) := by rw [if_neg (show ¬ (false = true) by decide)] at H; exact H
           clear H
           have H := H1
           clear H1
           by_cases c32 : 0 < ((rd_T130 l0 x12_1).f1)
           ·rw [if_pos c32] at H
            have c32b0 : decide (0 < ((rd_T130 l0 x12_1).f1)) = true := decide_eq_true c32
            clear c32
            simp only [Option.some.injEq, Prod.mk.injEq] at H
            obtain ⟨rfl, rfl⟩ := H
            have hcz33_0 : wc.cell? ⟨gb102, 0, none⟩ = some (.int .i64 ((rd_T130 l0 x12_1).f0)) := (blk_cell BK102.out 0).trans rfl
            have hcz33_1 : wc.cell? ⟨gb102, 1, none⟩ = some (.int .i64 ((rd_T130 l0 x12_1).f1)) := (blk_cell BK102.out 1).trans rfl
            have hfz33_0 := blk_frozen BK102.out 0
            have hfz33_1 := blk_frozen BK102.out 1
            go_wp2
            repeat (go_quiet (fail); try go_wp2)
            go_ret2
            exact ⟨by first | rfl | (simp [errW_none, errW_some] <;> rfl) | (simp [*, errW_none, errW_some] <;> rfl), by repeat (first | (with_reducible first | exact HB.out | apply below_alloc | apply pw_below_drewN | apply below_drew1 | refine below_set ?_ GE102.out) | exact HB.out)⟩
           ·rw [if_neg c32] at H
            have c32b0 : decide (0 < ((rd_T130 l0 x12_1).f1)) = false := decide_eq_false c32
            clear c32
            have H' := Aside0.mk H
            clear H
            have hcz34_0 : wc.cell? ⟨gb102, 0, none⟩ = some (.int .i64 ((rd_T130 l0 x12_1).f0)) := (blk_cell BK102.out 0).trans rfl
            have hcz34_1 : wc.cell? ⟨gb102, 1, none⟩ = some (.int .i64 ((rd_T130 l0 x12_1).f1)) := (blk_cell BK102.out 1).trans rfl
            have hfz34_0 := blk_frozen BK102.out 0
            have hfz34_1 := blk_frozen BK102.out 1
            go_wp2
            repeat (go_quiet (fail); try go_wp2)
            go_roundg kj18
            case measure => have := HK1.out; have := HJ5.out; have := HJ18.out; omega
            case rel => exact ⟨(x1_5), (wrap64 (x12_1 + 1)), (by first | rfl | (simp; done) | (simp [*]; done)), H', ⟨by have := HK1.out; have := HJ5.out; have := HJ18.out; omega⟩, ⟨by (with_reducible repeat (first | apply Kd.V_alloc | apply Kd.V_drewN | apply Kd.V_drew)); exact Kd.V_mono HO_1.out (fun _ hk => hk.1)⟩, ⟨by repeat (first | (with_reducible first | exact HB.out | apply below_alloc | apply pw_below_drewN | apply below_drew1 | refine below_set ?_ GE102.out) | exact HB.out)⟩⟩
     ·rw [if_neg c5] at H
      exact absurd H (by simp)
    ·rw [if_neg c4] at H
     exact absurd H (by simp)
   ·rw [if_neg c3] at H
    have c3b0 : decide (x12_1 < (l0.length : Int)) = false := decide_eq_false c3
    clear c3
    simp only [Option.some.injEq, Prod.mk.injEq] at H
    obtain ⟨rfl, rfl⟩ := H
    go_wp2
    repeat (go_quiet (fail); try go_wp2)
    go_ret2
    exact ⟨by first | rfl | (simp [errW_none, errW_some] <;> rfl) | (simp [*, errW_none, errW_some] <;> rfl), by repeat (first | (with_reducible first | exact HB.out | apply below_alloc | apply pw_below_drewN | apply below_drew1) | exact HB.out)⟩
def reset_heads.f (a0_0 : Int) (a0_1 : Int) (a0_2 : Int) (a0_3 : Int) (a1_0 : Int) (a1_1 : Int) (a1_2 : Int) (a1_3 : Int) : Option (Int) := if a0_0 = a1_0 then (if a0_1 = a1_1 then (if a1_2 < a0_2 then (some 3) else (if a1_3 < a0_3 then (some 4) else (some 0))) else (some 2)) else (some 1)
set_option maxHeartbeats 8000000 in
set_option maxRecDepth 100000 in
theorem reset_heads.calls (a0_0 : Int) (a0_1 : Int) (a0_2 : Int) (a0_3 : Int) (a1_0 : Int) (a1_1 : Int) (a1_2 : Int) (a1_3 : Int) (r : Int) (w : World) (h : reset_heads.f a0_0 a0_1 a0_2 a0_3 a1_0 a1_1 a1_2 a1_3 = some r) :
  Calls Try.prog 75 #[.agg #[.int .i64 a0_0, .int .u64 a0_1, .int .u64 a0_2, .int .u64 a0_3], .agg #[.int .i64 a1_0, .int .u64 a1_1, .int .u64 a1_2, .int .u64 a1_3]] w fun e w' => e = .returned (.int .i64 r) ∧ Below w.heap.size w w' := by
 have hu122 := Try.underlying122
 have HB := Aside0.mk (Below.refl w.heap.size w)
 have H : (if a0_0 = a1_0 then (if a0_1 = a1_1 then (if a1_2 < a0_2 then (some 3) else (if a1_3 < a0_3 then (some 4) else (some 0))) else (some 2)) else (some 1)) = some r := h
 clear h
 by_cases c3 : a0_0 = a1_0
 ·rw [if_pos c3] at H
  have c3b0 : (a0_0 == a1_0) = true := beq_iff_eq.mpr c3
  have c3b1 : (a0_0 != a1_0) = false := bne_eq_false_iff_eq.mpr c3
  clear c3
  by_cases c4 : a0_1 = a1_1
  ·rw [if_pos c4] at H
   have c4b0 : (a0_1 == a1_1) = true := beq_iff_eq.mpr c4
   have c4b1 : (a0_1 != a1_1) = false := bne_eq_false_iff_eq.mpr c4
   clear c4
   by_cases c5 : a1_2 < a0_2
   ·rw [if_pos c5] at H
    have c5b0 : decide (a1_2 < a0_2) = true := decide_eq_true c5
    clear c5
    obtain rfl := Option.some.inj H
    go_enter Try.func75, Try.ntmps75
    go_wp2_with (first | ((with_reducible refine gate_dst (N := 2) rfl ?_); refine box_event ?hg (N := 2) ?hd (cs := #[.int .i64 a0_0, .int .u64 a0_1, .int .u64 a0_2, .int .u64 a0_3]) (t := 122) ?hr ?_; (case hd => rfl); (case hg => rfl); (case hr => first | (go_simp; done) | (go_simp; rfl)); intro gb101 hg w6 hbox hb; have n0_ := Aside0.mk (below_step (by repeat (first | (with_reducible first | exact HB.out | apply below_alloc | apply pw_below_drewN | apply below_drew1) | exact HB.out)) hb); have n1_ := Aside0.mk (hbox); have n2_ := Aside0.mk ((by rw [hg]; exact (below_size (by repeat (first | (with_reducible first | exact HB.out | apply below_alloc | apply pw_below_drewN | apply below_drew1) | exact HB.out))) : w.heap.size ≤ gb101)); have n3_ := Aside0.mk ((by rw [hg]; exact (below_size (by repeat (first | (with_reducible first | exact HB.out | apply below_alloc | apply pw_below_drewN | apply below_drew1) | exact HB.out))) : w.heap.size ≤ gb101)); clear HB; have HB := n0_; have BK101 := n1_; have GW101 := n2_; have GE101 := n3_; clear n0_ n1_ n2_ n3_; clear hb hbox hg) | ((with_reducible refine gate_dst (N := 3) rfl ?_); refine box_event ?hg (N := 3) ?hd (cs := #[.int .i64 a1_0, .int .u64 a1_1, .int .u64 a1_2, .int .u64 a1_3]) (t := 122) ?hr ?_; (case hd => rfl); (case hg => rfl); (case hr => first | (go_simp; done) | (go_simp; rfl)); intro gb102 hg w7 hbox hb; have n0_ := Aside0.mk (blk_below (g := gb101) (o := .cells #[.int .i64 a0_0, .int .u64 a0_1, .int .u64 a0_2, .int .u64 a0_3] 122 (0, 0)) (by (with_reducible repeat (first | refine blk_drewN ?_ _ | refine blk_drew ?_ | refine blk_alloc ?_ _)); exact BK101.out) hb); have n1_ := Aside0.mk (below_step (by repeat (first | (with_reducible first | exact HB.out | apply below_alloc | apply pw_below_drewN | apply below_drew1 | refine below_set ?_ GE101.out) | exact HB.out)) hb); have n2_ := Aside0.mk (hbox); have n3_ := Aside0.mk ((by rw [hg]; exact (below_size (by repeat (first | (with_reducible first | exact HB.out | apply below_alloc | apply pw_below_drewN | apply below_drew1 | refine below_set ?_ GE101.out) | exact HB.out))) : w.heap.size ≤ gb102)); have n4_ := Aside0.mk ((by rw [hg]; exact (below_size (by repeat (first | (with_reducible first | exact HB.out | apply below_alloc | apply pw_below_drewN | apply below_drew1 | refine below_set ?_ GE101.out) | exact HB.out))) : w.heap.size ≤ gb102)); have n5_ := Aside0.mk ((by rw [hg]; exact Nat.ne_of_lt (blk_lt (g := gb101) (o := .cells #[.int .i64 a0_0, .int .u64 a0_1, .int .u64 a0_2, .int .u64 a0_3] 122 (0, 0)) (by (with_reducible repeat (first | refine blk_drewN ?_ _ | refine blk_drew ?_ | refine blk_alloc ?_ _)); exact BK101.out)) : gb101 ≠ gb102)); have n6_ := Aside0.mk ((by rw [hg]; exact Nat.ne_of_gt (blk_lt (g := gb101) (o := .cells #[.int .i64 a0_0, .int .u64 a0_1, .int .u64 a0_2, .int .u64 a0_3] 122 (0, 0)) (by (with_reducible repeat (first | refine blk_drewN ?_ _ | refine blk_drew ?_ | refine blk_alloc ?_ _)); exact BK101.out)) : gb102 ≠ gb101)); clear BK101; clear HB; have BK101 := n0_; have HB := n1_; have BK102 := n2_; have GW102 := n3_; have GE102 := n4_; have NB101_102 := n5_; have NB102_101 := n6_; clear n0_ n1_ n2_ n3_ n4_ n5_ n6_; clear hb hbox hg; have hnb8 := NB101_102.out; have hnc8 := NB102_101.out; have hcz9_0 : w7.cell? ⟨gb101, 0, none⟩ = some (.int .i64 a0_0) := (blk_cell BK101.out 0).trans rfl; have hcz9_1 : w7.cell? ⟨gb101, 1, none⟩ = some (.int .u64 a0_1) := (blk_cell BK101.out 1).trans rfl; have hcz9_2 : w7.cell? ⟨gb101, 2, none⟩ = some (.int .u64 a0_2) := (blk_cell BK101.out 2).trans rfl; have hcz9_3 : w7.cell? ⟨gb101, 3, none⟩ = some (.int .u64 a0_3) := (blk_cell BK101.out 3).trans rfl; have hfz9_0 := blk_frozen BK101.out 0; have hfz9_1 := blk_frozen BK101.out 1; have hfz9_2 := blk_frozen BK101.out 2; have hfz9_3 := blk_frozen BK101.out 3; have hcz10_0 : w7.cell? ⟨gb102, 0, none⟩ = some (.int .i64 a1_0) := (blk_cell BK102.out 0).trans rfl; have hcz10_1 : w7.cell? ⟨gb102, 1, none⟩ = some (.int .u64 a1_1) := (blk_cell BK102.out 1).trans rfl; have hcz10_2 : w7.cell? ⟨gb102, 2, none⟩ = some (.int .u64 a1_2) := (blk_cell BK102.out 2).trans rfl; have hcz10_3 : w7.cell? ⟨gb102, 3, none⟩ = some (.int .u64 a1_3) := (blk_cell BK102.out 3).trans rfl; have hfz10_0 := blk_frozen BK102.out 0; have hfz10_1 := blk_frozen BK102.out 1; have hfz10_2 := blk_frozen BK102.out 2; have hfz10_3 := blk_frozen BK102.out 3))
    go_ret
    exact ⟨by first | rfl | (simp [errW_none, errW_some] <;> rfl) | (simp [*, errW_none, errW_some] <;> rfl), by repeat (first | (with_reducible first | exact HB.out | apply below_alloc | apply pw_below_drewN | apply below_drew1 | refine below_set ?_ GE101.out | refine below_set ?_ GE102.out) | exact HB.out)⟩
   ·rw [if_neg c5] at H
    have c5b0 : decide (a1_2 < a0_2) = false := decide_eq_false c5
    clear c5
    by_cases c11 : a1_3 < a0_3
    ·rw [if_pos c11] at H
     have c11b0 : decide (a1_3 < a0_3) = true := decide_eq_true c11
     clear c11
     obtain rfl := Option.some.inj H
     go_enter Try.func75, Try.ntmps75
     go_wp2_with (first | ((with_reducible refine gate_dst (N := 2) rfl ?_); refine box_event ?hg (N := 2) ?hd (cs := #[.int .i64 a0_0, .int .u64 a0_1, .int .u64 a0_2, .int .u64 a0_3]) (t := 122) ?hr ?_; (case hd => rfl); (case hg => rfl); (case hr => first | (go_simp; done) | (go_simp; rfl)); intro gb101 hg w12 hbox hb; have n0_ := Aside0.mk (below_step (by repeat (first | (with_reducible first | exact HB.out | apply below_alloc | apply pw_below_drewN | apply below_drew1) | exact HB.out)) hb); have n1_ := Aside0.mk (hbox); have n2_ := Aside0.mk ((by rw [hg]; exact (below_size (by repeat (first | (with_reducible first | exact HB.out | apply below_alloc | apply pw_below_drewN | apply below_drew1) | exact HB.out))) : w.heap.size ≤ gb101)); have n3_ := Aside0.mk ((by rw [hg]; exact (below_size (by repeat (first | (with_reducible first | exact HB.out | apply below_alloc | apply pw_below_drewN | apply below_drew1) | exact HB.out))) : w.heap.size ≤ gb101)); clear HB; have HB := n0_; have BK101 := n1_; have GW101 := n2_; have GE101 := n3_; clear n0_ n1_ n2_ n3_; clear hb hbox hg) | ((with_reducible refine gate_dst (N := 3) rfl ?_); refine box_event ?hg (N := 3) ?hd (cs := #[.int .i64 a1_0, .int .u64 a1_1, .int .u64 a1_2, .int .u64 a1_3]) (t := 122) ?hr ?_; (case hd => rfl); (case hg => rfl); (case hr => first | (go_simp; done) | (go_simp; rfl)); intro gb102 hg w13 hbox hb; have n0_ := Aside0.mk (blk_below (g := gb101) (o := .cells #[.int .i64 a0_0, .int .u64 a0_1, .int .u64 a0_2, .int .u64 a0_3] 122 (0, 0)) (by (with_reducible repeat (first | refine blk_drewN ?_ _ | refine blk_drew ?_ | refine blk_alloc ?_ _)); exact BK101.out) hb); have n1_ := Aside0.mk (below_step (by repeat (first | (with_reducible first | exact HB.out | apply below_alloc | apply pw_below_drewN | apply below_drew1 | refine below_set ?_ GE101.out) | exact HB.out)) hb); have n2_ := Aside0.mk (hbox); have n3_ := Aside0.mk ((by rw [hg]; exact (below_size (by repeat (first | (with_reducible first | exact HB.out | apply below_alloc | apply pw_below_drewN | apply below_drew1 | refine below_set ?_ GE101.out) | exact HB.out))) : w.heap.size ≤ gb102)); have n4_ := Aside0.mk ((by rw [hg]; exact (below_size (by repeat (first | (with_reducible first | exact HB.out | apply below_alloc | apply pw_below_drewN | apply below_drew1 | refine below_set ?_ GE101.out) | exact HB.out))) : w.heap.size ≤ gb102)); have n5_ := Aside0.mk ((by rw [hg]; exact Nat.ne_of_lt (blk_lt (g := gb101) (o := .cells #[.int .i64 a0_0, .int .u64 a0_1, .int .u64 a0_2, .int .u64 a0_3] 122 (0, 0)) (by (with_reducible repeat (first | refine blk_drewN ?_ _ | refine blk_drew ?_ | refine blk_alloc ?_ _)); exact BK101.out)) : gb101 ≠ gb102)); have n6_ := Aside0.mk ((by rw [hg]; exact Nat.ne_of_gt (blk_lt (g := gb101) (o := .cells #[.int .i64 a0_0, .int .u64 a0_1, .int .u64 a0_2, .int .u64 a0_3] 122 (0, 0)) (by (with_reducible repeat (first | refine blk_drewN ?_ _ | refine blk_drew ?_ | refine blk_alloc ?_ _)); exact BK101.out)) : gb102 ≠ gb101)); clear BK101; clear HB; have BK101 := n0_; have HB := n1_; have BK102 := n2_; have GW102 := n3_; have GE102 := n4_; have NB101_102 := n5_; have NB102_101 := n6_; clear n0_ n1_ n2_ n3_ n4_ n5_ n6_; clear hb hbox hg; have hnb14 := NB101_102.out; have hnc14 := NB102_101.out; have hcz15_0 : w13.cell? ⟨gb101, 0, none⟩ = some (.int .i64 a0_0) := (blk_cell BK101.out 0).trans rfl; have hcz15_1 : w13.cell? ⟨gb101, 1, none⟩ = some (.int .u64 a0_1) := (blk_cell BK101.out 1).trans rfl; have hcz15_2 : w13.cell? ⟨gb101, 2, none⟩ = some (.int .u64 a0_2) := (blk_cell BK101.out 2).trans rfl; have hcz15_3 : w13.cell? ⟨gb101, 3, none⟩ = some (.int .u64 a0_3) := (blk_cell BK101.out 3).trans rfl; have hfz15_0 := blk_frozen BK101.out 0; have hfz15_1 := blk_frozen BK101.out 1; have hfz15_2 := blk_frozen BK101.out 2; have hfz15_3 := blk_frozen BK101.out 3; have hcz16_0 : w13.cell? ⟨gb102, 0, none⟩ = some (.int .i64 a1_0) := (blk_cell BK102.out 0).trans rfl; have hcz16_1 : w13.cell? ⟨gb102, 1, none⟩ = some (.int .u64 a1_1) := (blk_cell BK102.out 1).trans rfl; have hcz16_2 : w13.cell? ⟨gb102, 2, none⟩ = some (.int .u64 a1_2) := (blk_cell BK102.out 2).trans rfl; have hcz16_3 : w13.cell? ⟨gb102, 3, none⟩ = some (.int .u64 a1_3) := (blk_cell BK102.out 3).trans rfl; have hfz16_0 := blk_frozen BK102.out 0; have hfz16_1 := blk_frozen BK102.out 1; have hfz16_2 := blk_frozen BK102.out 2; have hfz16_3 := blk_frozen BK102.out 3))
     go_ret
     exact ⟨by first | rfl | (simp [errW_none, errW_some] <;> rfl) | (simp [*, errW_none, errW_some] <;> rfl), by repeat (first | (with_reducible first | exact HB.out | apply below_alloc | apply pw_below_drewN | apply below_drew1 | refine below_set ?_ GE101.out | refine below_set ?_ GE102.out) | exact HB.out)⟩
    ·rw [if_neg c11] at H
     have c11b0 : decide (a1_3 < a0_3) = false := decide_eq_false c11
     clear c11
     obtain rfl := Option.some.inj H
     go_enter Try.func75, Try.ntmps75
     go_wp2_with (first | ((with_reducible refine gate_dst (N := 2) rfl ?_); refine box_event ?hg (N := 2) ?hd (cs := #[.int .i64 a0_0, .int .u64 a0_1, .int .u64 a0_2, .int .u64 a0_3]) (t := 122) ?hr ?_; (case hd => rfl); (case hg => rfl); (case hr => first | (go_simp; done) | (go_simp; rfl)); intro gb101 hg w17 hbox hb; have n0_ := Aside0.mk (below_step (by repeat (first | (with_reducible first | exact HB.out | apply below_alloc | apply pw_below_drewN | apply below_drew1) | exact HB.out)) hb); have n1_ := Aside0.mk (hbox); have n2_ := Aside0.mk ((by rw [hg]; exact (below_size (by repeat (first | (with_reducible first | exact HB.out | apply below_alloc | apply pw_below_drewN | apply below_drew1) | exact HB.out))) : w.heap.size ≤ gb101)); have n3_ := Aside0.mk ((by rw [hg]; exact (below_size (by repeat (first | (with_reducible first | exact HB.out | apply below_alloc | apply pw_below_drewN | apply below_drew1) | exact HB.out))) : w.heap.size ≤ gb101)); clear HB; have HB := n0_; have BK101 := n1_; have GW101 := n2_; have GE101 := n3_; clear n0_ n1_ n2_ n3_; clear hb hbox hg) | ((with_reducible refine gate_dst (N := 3) rfl ?_); refine box_event ?hg (N := 3) ?hd (cs := #[.int .i64 a1_0, .int .u64 a1_1, .int .u64 a1_2, .int .u64 a1_3]) (t := 122) ?hr ?_; (case hd => rfl); (case hg => rfl); (case hr => first | (go_simp; done) | (go_simp; rfl)); intro gb102 hg w18 hbox hb; have n0_ := Aside0.mk (blk_below (g := gb101) (o := .cells #[.int .i64 a0_0, .int .u64 a0_1, .int .u64 a0_2, .int .u64 a0_3] 122 (0, 0)) (by (with_reducible repeat (first | refine blk_drewN ?_ _ | refine blk_drew ?_ | refine blk_alloc ?_ _)); exact BK101.out) hb); have n1_ := Aside0.mk (below_step (by repeat (first | (with_reducible first | exact HB.out | apply below_alloc | apply pw_below_drewN | apply below_drew1 | refine below_set ?_ GE101.out) | exact HB.out)) hb); have n2_ := Aside0.mk (hbox); have n3_ := Aside0.mk ((by rw [hg]; exact (below_size (by repeat (first | (with_reducible first | exact HB.out | apply below_alloc | apply pw_below_drewN | apply below_drew1 | refine below_set ?_ GE101.out) | exact HB.out))) : w.heap.size ≤ gb102)); have n4_ := Aside0.mk ((by rw [hg]; exact (below_size (by repeat (first | (with_reducible first | exact HB.out | apply below_alloc | apply pw_below_drewN | apply below_drew1 | refine below_set ?_ GE101.out) | exact HB.out))) : w.heap.size ≤ gb102)); have n5_ := Aside0.mk ((by rw [hg]; exact Nat.ne_of_lt (blk_lt (g := gb101) (o := .cells #[.int .i64 a0_0, .int .u64 a0_1, .int .u64 a0_2, .int .u64 a0_3] 122 (0, 0)) (by (with_reducible repeat (first | refine blk_drewN ?_ _ | refine blk_drew ?_ | refine blk_alloc ?_ _)); exact BK101.out)) : gb101 ≠ gb102)); have n6_ := Aside0.mk ((by rw [hg]; exact Nat.ne_of_gt (blk_lt (g := gb101) (o := .cells #[.int .i64 a0_0, .int .u64 a0_1, .int .u64 a0_2, .int .u64 a0_3] 122 (0, 0)) (by (with_reducible repeat (first | refine blk_drewN ?_ _ | refine blk_drew ?_ | refine blk_alloc ?_ _)); exact BK101.out)) : gb102 ≠ gb101)); clear BK101; clear HB; have BK101 := n0_; have HB := n1_; have BK102 := n2_; have GW102 := n3_; have GE102 := n4_; have NB101_102 := n5_; have NB102_101 := n6_; clear n0_ n1_ n2_ n3_ n4_ n5_ n6_; clear hb hbox hg; have hnb19 := NB101_102.out; have hnc19 := NB102_101.out; have hcz20_0 : w18.cell? ⟨gb101, 0, none⟩ = some (.int .i64 a0_0) := (blk_cell BK101.out 0).trans rfl; have hcz20_1 : w18.cell? ⟨gb101, 1, none⟩ = some (.int .u64 a0_1) := (blk_cell BK101.out 1).trans rfl; have hcz20_2 : w18.cell? ⟨gb101, 2, none⟩ = some (.int .u64 a0_2) := (blk_cell BK101.out 2).trans rfl; have hcz20_3 : w18.cell? ⟨gb101, 3, none⟩ = some (.int .u64 a0_3) := (blk_cell BK101.out 3).trans rfl; have hfz20_0 := blk_frozen BK101.out 0; have hfz20_1 := blk_frozen BK101.out 1; have hfz20_2 := blk_frozen BK101.out 2; have hfz20_3 := blk_frozen BK101.out 3; have hcz21_0 : w18.cell? ⟨gb102, 0, none⟩ = some (.int .i64 a1_0) := (blk_cell BK102.out 0).trans rfl; have hcz21_1 : w18.cell? ⟨gb102, 1, none⟩ = some (.int .u64 a1_1) := (blk_cell BK102.out 1).trans rfl; have hcz21_2 : w18.cell? ⟨gb102, 2, none⟩ = some (.int .u64 a1_2) := (blk_cell BK102.out 2).trans rfl; have hcz21_3 : w18.cell? ⟨gb102, 3, none⟩ = some (.int .u64 a1_3) := (blk_cell BK102.out 3).trans rfl; have hfz21_0 := blk_frozen BK102.out 0; have hfz21_1 := blk_frozen BK102.out 1; have hfz21_2 := blk_frozen BK102.out 2; have hfz21_3 := blk_frozen BK102.out 3))
     go_ret
     exact ⟨by first | rfl | (simp [errW_none, errW_some] <;> rfl) | (simp [*, errW_none, errW_some] <;> rfl), by repeat (first | (with_reducible first | exact HB.out | apply below_alloc | apply pw_below_drewN | apply below_drew1 | refine below_set ?_ GE101.out | refine below_set ?_ GE102.out) | exact HB.out)⟩
  ·rw [if_neg c4] at H
   have c4b0 : (a0_1 == a1_1) = false := beq_eq_false_iff_ne.mpr c4
   have c4b1 : (a0_1 != a1_1) = true := bne_iff_ne.mpr c4
   obtain rfl := Option.some.inj H
   go_enter Try.func75, Try.ntmps75
   go_wp2_with (first | ((with_reducible refine gate_dst (N := 2) rfl ?_); refine box_event ?hg (N := 2) ?hd (cs := #[.int .i64 a0_0, .int .u64 a0_1, .int .u64 a0_2, .int .u64 a0_3]) (t := 122) ?hr ?_; (case hd => rfl); (case hg => rfl); (case hr => first | (go_simp; done) | (go_simp; rfl)); intro gb101 hg w22 hbox hb; have n0_ := Aside0.mk (below_step (by repeat (first | (with_reducible first | exact HB.out | apply below_alloc | apply pw_below_drewN | apply below_drew1) | exact HB.out)) hb); have n1_ := Aside0.mk (hbox); have n2_ := Aside0.mk ((by rw [hg]; exact (below_size (by repeat (first | (with_reducible first | exact HB.out | apply below_alloc | apply pw_below_drewN | apply below_drew1) | exact HB.out))) : w.heap.size ≤ gb101)); have n3_ := Aside0.mk ((by rw [hg]; exact (below_size (by repeat (first | (with_reducible first | exact HB.out | apply below_alloc | apply pw_below_drewN | apply below_drew1) | exact HB.out))) : w.heap.size ≤ gb101)); clear HB; have HB := n0_; have BK101 := n1_; have GW101 := n2_; have GE101 := n3_; clear n0_ n1_ n2_ n3_; clear hb hbox hg) | ((with_reducible refine gate_dst (N := 3) rfl ?_); refine box_event ?hg (N := 3) ?hd (cs := #[.int .i64 a1_0, .int .u64 a1_1, .int .u64 a1_2, .int .u64 a1_3]) (t := 122) ?hr ?_; (case hd => rfl); (case hg => rfl); (case hr => first | (go_simp; done) | (go_simp; rfl)); intro gb102 hg w23 hbox hb; have n0_ := Aside0.mk (blk_below (g := gb101) (o := .cells #[.int .i64 a0_0, .int .u64 a0_1, .int .u64 a0_2, .int .u64 a0_3] 122 (0, 0)) (by (with_reducible repeat (first | refine blk_drewN ?_ _ | refine blk_drew ?_ | refine blk_alloc ?_ _)); exact BK101.out) hb); have n1_ := Aside0.mk (below_step (by repeat (first | (with_reducible first | exact HB.out | apply below_alloc | apply pw_below_drewN | apply below_drew1 | refine below_set ?_ GE101.out) | exact HB.out)) hb); have n2_ := Aside0.mk (hbox); have n3_ := Aside0.mk ((by rw [hg]; exact (below_size (by repeat (first | (with_reducible first | exact HB.out | apply below_alloc | apply pw_below_drewN | apply below_drew1 | refine below_set ?_ GE101.out) | exact HB.out))) : w.heap.size ≤ gb102)); have n4_ := Aside0.mk ((by rw [hg]; exact (below_size (by repeat (first | (with_reducible first | exact HB.out | apply below_alloc | apply pw_below_drewN | apply below_drew1 | refine below_set ?_ GE101.out) | exact HB.out))) : w.heap.size ≤ gb102)); have n5_ := Aside0.mk ((by rw [hg]; exact Nat.ne_of_lt (blk_lt (g := gb101) (o := .cells #[.int .i64 a0_0, .int .u64 a0_1, .int .u64 a0_2, .int .u64 a0_3] 122 (0, 0)) (by (with_reducible repeat (first | refine blk_drewN ?_ _ | refine blk_drew ?_ | refine blk_alloc ?_ _)); exact BK101.out)) : gb101 ≠ gb102)); have n6_ := Aside0.mk ((by rw [hg]; exact Nat.ne_of_gt (blk_lt (g := gb101) (o := .cells #[.int .i64 a0_0, .int .u64 a0_1, .int .u64 a0_2, .int .u64 a0_3] 122 (0, 0)) (by (with_reducible repeat (first | refine blk_drewN ?_ _ | refine blk_drew ?_ | refine blk_alloc ?_ _)); exact BK101.out)) : gb102 ≠ gb101)); clear BK101; clear HB; have BK101 := n0_; have HB := n1_; have BK102 := n2_; have GW102 := n3_; have GE102 := n4_; have NB101_102 := n5_; have NB102_101 := n6_; clear n0_ n1_ n2_ n3_ n4_ n5_ n6_; clear hb hbox hg; have hnb24 := NB101_102.out; have hnc24 := NB102_101.out; have hcz25_0 : w23.cell? ⟨gb101, 0, none⟩ = some (.int .i64 a0_0) := (blk_cell BK101.out 0).trans rfl; have hcz25_1 : w23.cell? ⟨gb101, 1, none⟩ = some (.int .u64 a0_1) := (blk_cell BK101.out 1).trans rfl; have hcz25_2 : w23.cell? ⟨gb101, 2, none⟩ = some (.int .u64 a0_2) := (blk_cell BK101.out 2).trans rfl; have hcz25_3 : w23.cell? ⟨gb101, 3, none⟩ = some (.int .u64 a0_3) := (blk_cell BK101.out 3).trans rfl; have hfz25_0 := blk_frozen BK101.out 0; have hfz25_1 := blk_frozen BK101.out 1; have hfz25_2 := blk_frozen BK101.out 2; have hfz25_3 := blk_frozen BK101.out 3; have hcz26_0 : w23.cell? ⟨gb102, 0, none⟩ = some (.int .i64 a1_0) := (blk_cell BK102.out 0).trans rfl; have hcz26_1 : w23.cell? ⟨gb102, 1, none⟩ = some (.int .u64 a1_1) := (blk_cell BK102.out 1).trans rfl; have hcz26_2 : w23.cell? ⟨gb102, 2, none⟩ = some (.int .u64 a1_2) := (blk_cell BK102.out 2).trans rfl; have hcz26_3 : w23.cell? ⟨gb102, 3, none⟩ = some (.int .u64 a1_3) := (blk_cell BK102.out 3).trans rfl; have hfz26_0 := blk_frozen BK102.out 0; have hfz26_1 := blk_frozen BK102.out 1; have hfz26_2 := blk_frozen BK102.out 2; have hfz26_3 := blk_frozen BK102.out 3))
   go_ret
   exact ⟨by first | rfl | (simp [errW_none, errW_some] <;> rfl) | (simp [*, errW_none, errW_some] <;> rfl), by repeat (first | (with_reducible first | exact HB.out | apply below_alloc | apply pw_below_drewN | apply below_drew1 | refine below_set ?_ GE101.out | refine below_set ?_ GE102.out) | exact HB.out)⟩
 ·rw [if_neg c3] at H
  have c3b0 : (a0_0 == a1_0) = false := beq_eq_false_iff_ne.mpr c3
  have c3b1 : (a0_0 != a1_0) = true := bne_iff_ne.mpr c3
  obtain rfl := Option.some.inj H
  go_enter Try.func75, Try.ntmps75
  go_wp2_with (first | ((with_reducible refine gate_dst (N := 2) rfl ?_); refine box_event ?hg (N := 2) ?hd (cs := #[.int .i64 a0_0, .int .u64 a0_1, .int .u64 a0_2, .int .u64 a0_3]) (t := 122) ?hr ?_; (case hd => rfl); (case hg => rfl); (case hr => first | (go_simp; done) | (go_simp; rfl)); intro gb101 hg w27 hbox hb; have n0_ := Aside0.mk (below_step (by repeat (first | (with_reducible first | exact HB.out | apply below_alloc | apply pw_below_drewN | apply below_drew1) | exact HB.out)) hb); have n1_ := Aside0.mk (hbox); have n2_ := Aside0.mk ((by rw [hg]; exact (below_size (by repeat (first | (with_reducible first | exact HB.out | apply below_alloc | apply pw_below_drewN | apply below_drew1) | exact HB.out))) : w.heap.size ≤ gb101)); have n3_ := Aside0.mk ((by rw [hg]; exact (below_size (by repeat (first | (with_reducible first | exact HB.out | apply below_alloc | apply pw_below_drewN | apply below_drew1) | exact HB.out))) : w.heap.size ≤ gb101)); clear HB; have HB := n0_; have BK101 := n1_; have GW101 := n2_; have GE101 := n3_; clear n0_ n1_ n2_ n3_; clear hb hbox hg) | ((with_reducible refine gate_dst (N := 3) rfl ?_); refine box_event ?hg (N := 3) ?hd (cs := #[.int .i64 a1_0, .int .u64 a1_1, .int .u64 a1_2, .int .u64 a1_3]) (t := 122) ?hr ?_; (case hd => rfl); (case hg => rfl); (case hr => first | (go_simp; done) | (go_simp; rfl)); intro gb102 hg w28 hbox hb; have n0_ := Aside0.mk (blk_below (g := gb101) (o := .cells #[.int .i64 a0_0, .int .u64 a0_1, .int .u64 a0_2, .int .u64 a0_3] 122 (0, 0)) (by (with_reducible repeat (first | refine blk_drewN ?_ _ | refine blk_drew ?_ | refine blk_alloc ?_ _)); exact BK101.out) hb); have n1_ := Aside0.mk (below_step (by repeat (first | (with_reducible first | exact HB.out | apply below_alloc | apply pw_below_drewN | apply below_drew1 | refine below_set ?_ GE101.out) | exact HB.out)) hb); have n2_ := Aside0.mk (hbox); have n3_ := Aside0.mk ((by rw [hg]; exact (below_size (by repeat (first | (with_reducible first | exact HB.out | apply below_alloc | apply pw_below_drewN | apply below_drew1 | refine below_set ?_ GE101.out) | exact HB.out))) : w.heap.size ≤ gb102)); have n4_ := Aside0.mk ((by rw [hg]; exact (below_size (by repeat (first | (with_reducible first | exact HB.out | apply below_alloc | apply pw_below_drewN | apply below_drew1 | refine below_set ?_ GE101.out) | exact HB.out))) : w.heap.size ≤ gb102)); have n5_ := Aside0.mk ((by rw [hg]; exact Nat.ne_of_lt (blk_lt (g := gb101) (o := .cells #[.int .i64 a0_0, .int .u64 a0_1, .int .u64 a0_2, .int .u64 a0_3] 122 (0, 0)) (by (with_reducible repeat (first | refine blk_drewN ?_ _ | refine blk_drew ?_ | refine blk_alloc ?_ _)); exact BK101.out)) : gb101 ≠ gb102)); have n6_ := Aside0.mk ((by rw [hg]; exact Nat.ne_of_gt (blk_lt (g := gb101) (o := .cells #[.int .i64 a0_0, .int .u64 a0_1, .int .u64 a0_2, .int .u64 a0_3] 122 (0, 0)) (by (with_reducible repeat (first | refine blk_drewN ?_ _ | refine blk_drew ?_ | refine blk_alloc ?_ _)); exact BK101.out)) : gb102 ≠ gb101)); clear BK101; clear HB; have BK101 := n0_; have HB := n1_; have BK102 := n2_; have GW102 := n3_; have GE102 := n4_; have NB101_102 := n5_; have NB102_101 := n6_; clear n0_ n1_ n2_ n3_ n4_ n5_ n6_; clear hb hbox hg; have hnb29 := NB101_102.out; have hnc29 := NB102_101.out; have hcz30_0 : w28.cell? ⟨gb101, 0, none⟩ = some (.int .i64 a0_0) := (blk_cell BK101.out 0).trans rfl; have hcz30_1 : w28.cell? ⟨gb101, 1, none⟩ = some (.int .u64 a0_1) := (blk_cell BK101.out 1).trans rfl; have hcz30_2 : w28.cell? ⟨gb101, 2, none⟩ = some (.int .u64 a0_2) := (blk_cell BK101.out 2).trans rfl; have hcz30_3 : w28.cell? ⟨gb101, 3, none⟩ = some (.int .u64 a0_3) := (blk_cell BK101.out 3).trans rfl; have hfz30_0 := blk_frozen BK101.out 0; have hfz30_1 := blk_frozen BK101.out 1; have hfz30_2 := blk_frozen BK101.out 2; have hfz30_3 := blk_frozen BK101.out 3; have hcz31_0 : w28.cell? ⟨gb102, 0, none⟩ = some (.int .i64 a1_0) := (blk_cell BK102.out 0).trans rfl; have hcz31_1 : w28.cell? ⟨gb102, 1, none⟩ = some (.int .u64 a1_1) := (blk_cell BK102.out 1).trans rfl; have hcz31_2 : w28.cell? ⟨gb102, 2, none⟩ = some (.int .u64 a1_2) := (blk_cell BK102.out 2).trans rfl; have hcz31_3 : w28.cell? ⟨gb102, 3, none⟩ = some (.int .u64 a1_3) := (blk_cell BK102.out 3).trans rfl; have hfz31_0 := blk_frozen BK102.out 0; have hfz31_1 := blk_frozen BK102.out 1; have hfz31_2 := blk_frozen BK102.out 2; have hfz31_3 := blk_frozen BK102.out 3))
  go_ret
  exact ⟨by first | rfl | (simp [errW_none, errW_some] <;> rfl) | (simp [*, errW_none, errW_some] <;> rfl), by repeat (first | (with_reducible first | exact HB.out | apply below_alloc | apply pw_below_drewN | apply below_drew1 | refine below_set ?_ GE101.out | refine below_set ?_ GE102.out) | exact HB.out)⟩
end Go.Proofs.Ytefiabakfpfbaaa.P
namespace Go.Proofs.Ytefiabakfpfbaaa.P
open Go.RowKit Go.Proofs.YtefiabakfpfbaaaW.PrintWords Go.Proofs.YtefiabakfpfbaaaW.PrintLast Go.Proofs.YtefiabakfpfbaaaW.PrintMore
attribute [local go_sem] max2_int min2_int max_two min_two max_three min_three max_four min_four
mutual
def reset_less_uint64.l0 : Nat → List (S106) → Int → List (S106) → Int → Int → Option (Int × Bool)
 | 0, _, _, _, _, _ => none
 | k + 1, x1, x6, x10, x11, x12 => if x12 < x11 then (if 0 ≤ x12 then (if x12 < (x10.length : Int) then (reset_less_uint64.l1 k x1 x6 x10 x11 x12 ((rd_T106 x10 x12).f0) ((rd_T106 x10 x12).f1)) else (none)) else (none)) else (some (0, false))
def reset_less_uint64.j2 : Nat → List (S106) → Int → List (S106) → Int → Int → Int → Int → Option (Int × Bool)
 | 0, _, _, _, _, _, _, _ => none
 | k + 1, x1, x6, x10, x11, x12, x103000, x103001 => if (x1.length : Int) > 0 then (if 0 < (x1.length : Int) then (reset_less_uint64.j3 k x1 x6 x6 x10 x11 x12 (((rd_T106 x1 0).f0) == x103000) x103000 x103001) else (none)) else (reset_less_uint64.j3 k x1 x6 x6 x10 x11 x12 false x103000 x103001)
def reset_less_uint64.j3 : Nat → List (S106) → Int → Int → List (S106) → Int → Int → Bool → Int → Int → Option (Int × Bool)
 | 0, _, _, _, _, _, _, _, _, _ => none
 | k + 1, x1, x6, x9, x10, x11, x12, x42, x103000, x103001 => if x42 = true then (if 0 < (x1.length : Int) then (if ((rd_T106 x1 0).f1) < x103001 then (some (x103000, true)) else (reset_less_uint64.l0 k x1 x6 x10 x11 (wrap64 (x12 + 1)))) else (none)) else (if x9 < x103001 then (some (x103000, true)) else (reset_less_uint64.l0 k x1 x6 x10 x11 (wrap64 (x12 + 1))))
def reset_less_uint64.l1 : Nat → List (S106) → Int → List (S106) → Int → Int → Int → Int → Option (Int × Bool)
 | 0, _, _, _, _, _, _, _ => none
 | k + 1, x1, x6, x10, x11, x12, x103000, x103001 => if (x1.length : Int) > 0 then (if 0 < (x1.length : Int) then (if ((rd_T106 x1 0).f0) < x103000 then (if 1 ≤ (x1.length : Int) then (reset_less_uint64.l1 k (x1.drop 1) x6 x10 x11 x12 x103000 x103001) else (none)) else (reset_less_uint64.j2 k x1 x6 x10 x11 x12 x103000 x103001)) else (none)) else (reset_less_uint64.j2 k x1 x6 x10 x11 x12 x103000 x103001)
end
def reset_less_uint64.f (k : Nat) (l0 : List (S106)) (l1 : List (S106)) : Option (Int × Bool) := reset_less_uint64.l0 k l1 0 l0 (l0.length : Int) 0
set_option maxHeartbeats 8000000 in
set_option maxRecDepth 100000 in
theorem reset_less_uint64.calls (k : Nat) (A0 : Option Addr) (c0 : Nat) (l0 : List (S106)) (P1_ : Nat → Prop) (A1 : Option Addr) (c1 : Nat) (l1 : List (S106)) (r1 : Int) (r2 : Bool) (w : World) (hr0 : Kd.C k106 w A0 l0.length l0) (hc0 : l0.length ≤ c0) (hs1 : Kd.V k106 106 w w.heap.size (fun k_ => P1_ k_) (.slice A1 l1.length c1) l1) (h : reset_less_uint64.f k l0 l1 = some (r1, r2)) :
  Calls Try.prog 114 #[.slice A0 l0.length c0, .slice A1 l1.length c1] w fun e w' => e = .returned (.tuple #[.int .i64 r1, .bool r2]) ∧ Below w.heap.size w w' := by
 have hu106 := Try.underlying106
 have HR0 := Aside0.mk hr0
 have HC0 := Aside0.mk hc0
 clear hr0 hc0
 have HO1 := Aside0.mk (show Kd.V k106 106 w w.heap.size (fun k_ => (P1_ k_ ∨ w.heap.size ≤ k_)) (.slice A1 l1.length c1) l1 from Kd.V_mono hs1 (fun k_ hk => .inl hk))
 have HB := Aside0.mk (Below.refl w.heap.size w)
 have H : (reset_less_uint64.l0 k l1 0 l0 (l0.length : Int) 0) = some (r1, r2) := h
 clear h
 have H' := Aside0.mk H
 clear H
 go_enter Try.func114, Try.ntmps114
 go_wp2
 repeat (go_quiet (fail); try go_wp2)
 go_loopg [1, 12] k (fun kq v1 v12 w' => ∃ (x1_1 : List (S106)) (x12_1 : Int), v12 = .int .i64 x12_1 ∧ Aside0 (reset_less_uint64.l0 kq x1_1 0 l0 (l0.length : Int) x12_1 = some (r1, r2)) ∧ Aside0 (kq ≤ k) ∧ Aside0 (Kd.V k106 106 w' w.heap.size (fun k_ => (P1_ k_ ∨ w.heap.size ≤ k_)) v1 x1_1) ∧ Aside0 (Below w.heap.size w w'))
 case atStart => exact ⟨(l1), (0), (by first | rfl | (simp; done) | (simp [*]; done)), H', ⟨Nat.le_refl _⟩, ⟨by (with_reducible repeat (first | apply Kd.V_alloc | apply Kd.V_drewN | apply Kd.V_drew)); exact HO1.out⟩, ⟨by repeat (first | (with_reducible first | exact HB.out | apply below_alloc | apply pw_below_drewN | apply below_drew1) | exact HB.out)⟩⟩
 case round =>
  clear H'
  try clear c1
  try clear p2
  obtain ⟨x1_1, x12_1, rfl, HA, HK1, HO_1, HB⟩ := hrel
  cases gk with
  | zero => exact absurd HA.out (by simp [reset_less_uint64.l0])
  | succ k1 =>
   have H := HA.out
   clear HA
   simp only [reset_less_uint64.l0] at H
   by_cases c3 : x12_1 < (l0.length : Int)
   ·rw [if_pos c3] at H
    have c3b0 : decide (x12_1 < (l0.length : Int)) = true := decide_eq_true c3
    clear c3
    by_cases c4 : 0 ≤ x12_1
    ·rw [if_pos c4] at H
     have c4b0 : decide (0 ≤ x12_1) = true := decide_eq_true c4
     clear c4
     by_cases c5 : x12_1 < (l0.length : Int)
     ·rw [if_pos c5] at H
      have c5b0 : decide (x12_1 < (l0.length : Int)) = true := decide_eq_true c5
      clear c5
      have HC6 := Aside0.mk H
      clear H
      have p101 : 0 ≤ (x12_1 : Int) := of_decide_eq_true (by first | (with_reducible assumption) | assumption)
      have q101 : x12_1 < (l0.length : Int) := of_decide_eq_true (by first | (with_reducible assumption) | assumption)
      obtain ⟨ad101, e101, hx101_0, hx101_1⟩ := at_T106 HR0.out x12_1 p101 q101
      cases e101
      replace hx101_0 := (HB.out.cell (World.block_lt_of_cell? w _ hx101_0)).trans hx101_0
      replace hx101_1 := (HB.out.cell (World.block_lt_of_cell? w _ hx101_1)).trans hx101_1
      replace p101 := eq_true p101
      replace q101 := eq_true q101
      go_upto_block 2 with (first | ((with_reducible refine gate_dst (N := 8) rfl ?_); refine box_event ?hg (N := 8) ?hd (cs := #[.int .i64 0, .int .u64 0]) (t := 106) ?hr ?_; (case hd => rfl); (case hg => rfl); (case hr => first | (go_simp; done) | (go_simp; rfl)); intro gb102 hg w7 hbox hb; have n0_ := Aside0.mk (Kd.V_below (Kd.V_elderB (by (with_reducible repeat (first | apply Kd.V_alloc | apply Kd.V_drewN | apply Kd.V_drew)); exact HO_1.out) gb102 (Nat.le_of_eq hg.symm)) hb); have n1_ := Aside0.mk (below_step (by repeat (first | (with_reducible first | exact HB.out | apply below_alloc | apply pw_below_drewN | apply below_drew1) | exact HB.out)) hb); have n2_ := Aside0.mk (hbox); have n3_ := Aside0.mk ((by rw [hg]; exact (below_size (by repeat (first | (with_reducible first | exact HB.out | apply below_alloc | apply pw_below_drewN | apply below_drew1) | exact HB.out))) : w.heap.size ≤ gb102)); have n4_ := Aside0.mk ((by rw [hg]; exact (below_size (by repeat (first | (with_reducible first | exact HB.out | apply below_alloc | apply pw_below_drewN | apply below_drew1) | exact HB.out))) : w.heap.size ≤ gb102)); clear HO_1; clear HB; have HO_1 := n0_; have HB := n1_; have BK102 := n2_; have GW102 := n3_; have GE102 := n4_; clear n0_ n1_ n2_ n3_ n4_; clear hb hbox hg; have hcz8_0 : w7.cell? ⟨gb102, 0, none⟩ = some (.int .i64 0) := (blk_cell BK102.out 0).trans rfl; have hcz8_1 : w7.cell? ⟨gb102, 1, none⟩ = some (.int .u64 0) := (blk_cell BK102.out 1).trans rfl; have hfz8_0 := blk_frozen BK102.out 0; have hfz8_1 := blk_frozen BK102.out 1))
      repeat (go_quiet (first | ((with_reducible refine gate_dst (N := 8) rfl ?_); refine box_event ?hg (N := 8) ?hd (cs := #[.int .i64 0, .int .u64 0]) (t := 106) ?hr ?_; (case hd => rfl); (case hg => rfl); (case hr => first | (go_simp; done) | (go_simp; rfl)); intro gb102 hg w7 hbox hb; have n0_ := Aside0.mk (Kd.V_below (Kd.V_elderB (by (with_reducible repeat (first | apply Kd.V_alloc | apply Kd.V_drewN | apply Kd.V_drew)); exact HO_1.out) gb102 (Nat.le_of_eq hg.symm)) hb); have n1_ := Aside0.mk (below_step (by repeat (first | (with_reducible first | exact HB.out | apply below_alloc | apply pw_below_drewN | apply below_drew1) | exact HB.out)) hb); have n2_ := Aside0.mk (hbox); have n3_ := Aside0.mk ((by rw [hg]; exact (below_size (by repeat (first | (with_reducible first | exact HB.out | apply below_alloc | apply pw_below_drewN | apply below_drew1) | exact HB.out))) : w.heap.size ≤ gb102)); have n4_ := Aside0.mk ((by rw [hg]; exact (below_size (by repeat (first | (with_reducible first | exact HB.out | apply below_alloc | apply pw_below_drewN | apply below_drew1) | exact HB.out))) : w.heap.size ≤ gb102)); clear HO_1; clear HB; have HO_1 := n0_; have HB := n1_; have BK102 := n2_; have GW102 := n3_; have GE102 := n4_; clear n0_ n1_ n2_ n3_ n4_; clear hb hbox hg; have hcz8_0 : w7.cell? ⟨gb102, 0, none⟩ = some (.int .i64 0) := (blk_cell BK102.out 0).trans rfl; have hcz8_1 : w7.cell? ⟨gb102, 1, none⟩ = some (.int .u64 0) := (blk_cell BK102.out 1).trans rfl; have hfz8_0 := blk_frozen BK102.out 0; have hfz8_1 := blk_frozen BK102.out 1)); go_upto_block 2 with (first | ((with_reducible refine gate_dst (N := 8) rfl ?_); refine box_event ?hg (N := 8) ?hd (cs := #[.int .i64 0, .int .u64 0]) (t := 106) ?hr ?_; (case hd => rfl); (case hg => rfl); (case hr => first | (go_simp; done) | (go_simp; rfl)); intro gb102 hg w7 hbox hb; have n0_ := Aside0.mk (Kd.V_below (Kd.V_elderB (by (with_reducible repeat (first | apply Kd.V_alloc | apply Kd.V_drewN | apply Kd.V_drew)); exact HO_1.out) gb102 (Nat.le_of_eq hg.symm)) hb); have n1_ := Aside0.mk (below_step (by repeat (first | (with_reducible first | exact HB.out | apply below_alloc | apply pw_below_drewN | apply below_drew1) | exact HB.out)) hb); have n2_ := Aside0.mk (hbox); have n3_ := Aside0.mk ((by rw [hg]; exact (below_size (by repeat (first | (with_reducible first | exact HB.out | apply below_alloc | apply pw_below_drewN | apply below_drew1) | exact HB.out))) : w.heap.size ≤ gb102)); have n4_ := Aside0.mk ((by rw [hg]; exact (below_size (by repeat (first | (with_reducible first | exact HB.out | apply below_alloc | apply pw_below_drewN | apply below_drew1) | exact HB.out))) : w.heap.size ≤ gb102)); clear HO_1; clear HB; have HO_1 := n0_; have HB := n1_; have BK102 := n2_; have GW102 := n3_; have GE102 := n4_; clear n0_ n1_ n2_ n3_ n4_; clear hb hbox hg; have hcz8_0 : w7.cell? ⟨gb102, 0, none⟩ = some (.int .i64 0) := (blk_cell BK102.out 0).trans rfl; have hcz8_1 : w7.cell? ⟨gb102, 1, none⟩ = some (.int .u64 0) := (blk_cell BK102.out 1).trans rfl; have hfz8_0 := blk_frozen BK102.out 0; have hfz8_1 := blk_frozen BK102.out 1)))
      (try simp only [Act.put, List.setIfInBounds_toArray, List.set_cons_zero, List.set_cons_succ])
      go_cut [1] (fun v1 wc => ∃ (kq : Nat) (x1_5 : List (S106)), Aside0 (reset_less_uint64.j2 kq x1_5 0 l0 (l0.length : Int) x12_1 ((rd_T106 l0 x12_1).f0) ((rd_T106 l0 x12_1).f1) = some (r1, r2)) ∧ Aside0 (kq ≤ k1) ∧ Aside0 (Kd.V k106 106 wc w.heap.size (fun k_ => (P1_ k_ ∨ w.heap.size ≤ k_) ∧ k_ ≠ gb102) v1 x1_5) ∧ Aside0 (wc.heap[gb102]? = some (.cells #[.int .i64 ((rd_T106 l0 x12_1).f0), .int .u64 ((rd_T106 l0 x12_1).f1)] 106 (0, 0))) ∧ Aside0 (Below w.heap.size w wc))
      case first =>
       have H := HC6.out
       clear HC6
       have H' := Aside0.mk H
       clear H
       go_wp2
       repeat (go_quiet (fail); try go_wp2)
       go_loopg [1] k1 (fun kq v1 w' => ∃ (x1_2 : List (S106)), Aside0 (reset_less_uint64.l1 kq x1_2 0 l0 (l0.length : Int) x12_1 ((rd_T106 l0 x12_1).f0) ((rd_T106 l0 x12_1).f1) = some (r1, r2)) ∧ Aside0 (kq ≤ k1) ∧ Aside0 (Kd.V k106 106 w' w.heap.size (fun k_ => (P1_ k_ ∨ w.heap.size ≤ k_) ∧ k_ ≠ gb102) v1 x1_2) ∧ Aside0 (w'.heap[gb102]? = some (.cells #[.int .i64 ((rd_T106 l0 x12_1).f0), .int .u64 ((rd_T106 l0 x12_1).f1)] 106 (0, 0))) ∧ Aside0 (Below w.heap.size w w'))
       case atStart => exact ⟨(x1_1), H', ⟨Nat.le_refl _⟩, ⟨by (with_reducible repeat (first | apply Kd.V_alloc | apply Kd.V_drewN | apply Kd.V_drew)); exact Kd.V_mono (Kd.V_far (p := ⟨gb102, 1, none⟩) (Kd.V_far (p := ⟨gb102, 0, none⟩) (Kd.V_mono HO_1.out (fun k_ hk => (⟨hk, hk.2⟩ : _ ∧ k_ ≠ gb102))) (fun _ hk => hk.2) (.int .i64 ((rd_T106 l0 x12_1).f0))) (fun _ hk => hk.2) (.int .u64 ((rd_T106 l0 x12_1).f1))) (fun _ hk => ⟨hk.1.1, hk.1.2⟩)⟩, ⟨by (with_reducible repeat (first | refine blk_drewN ?_ _ | refine blk_drew ?_ | refine blk_alloc ?_ _)); refine blk_put (cs := #[.int .i64 ((rd_T106 l0 x12_1).f0), .int .u64 0]) ?_ 1 _ rfl; (with_reducible repeat (first | refine blk_drewN ?_ _ | refine blk_drew ?_ | refine blk_alloc ?_ _)); refine blk_put (cs := #[.int .i64 0, .int .u64 0]) ?_ 0 _ rfl; (with_reducible repeat (first | refine blk_drewN ?_ _ | refine blk_drew ?_ | refine blk_alloc ?_ _)); exact BK102.out⟩, ⟨by repeat (first | (with_reducible first | exact HB.out | apply below_alloc | apply pw_below_drewN | apply below_drew1 | refine below_set ?_ GE102.out) | exact HB.out)⟩⟩
       case round =>
        clear H'
        try clear c1
        try clear p1
        try clear q1
        try clear hx1
        try clear p2
        try clear c3
        try clear c3b0
        try clear c4
        try clear c4b0
        try clear c5
        try clear c5b0
        try clear hcz8_0
        try clear hcz8_1
        try clear hfz8_0
        try clear hfz8_1
        try clear hx101_0
        try clear hx101_1
        try clear p101
        try clear p2
        try clear q101
        obtain ⟨x1_2, HA, HK2, HO_1, BK102, HB⟩ := hrel
        cases gk with
        | zero => exact absurd HA.out (by simp [reset_less_uint64.l1])
        | succ k2 =>
         have H := HA.out
         clear HA
         simp only [reset_less_uint64.l1] at H
         by_cases c9 : (x1_2.length : Int) > 0
         ·rw [if_pos c9] at H
          have c9b0 : decide (0 < (x1_2.length : Int)) = true := decide_eq_true c9
          have c9b1 : decide (0 < x1_2.length) = true := decide_eq_true (by omega)
          clear c9
          (first | rw [c9b0] | (simp only [i64_w, i32_w]; rw [c9b0]) | skip)
          by_cases c10 : 0 < (x1_2.length : Int)
          ·rw [if_pos c10] at H
           have c10b0 : decide (0 < (x1_2.length : Int)) = true := decide_eq_true c10
           have c10b1 : decide (0 < x1_2.length) = true := decide_eq_true (by omega)
           clear c10
           by_cases c11 : ((rd_T106 x1_2 0).f0) < ((rd_T106 l0 x12_1).f0)
           ·rw [if_pos c11] at H
            have c11b0 : decide (((rd_T106 x1_2 0).f0) < ((rd_T106 l0 x12_1).f0)) = true := decide_eq_true c11
            clear c11
            by_cases c12 : 1 ≤ (x1_2.length : Int)
            ·rw [if_pos c12] at H
             have c12b0 := eq_true c12
             have c12b1 : decide (1 ≤ (x1_2.length : Int)) = true := decide_eq_true c12
             clear c12
             obtain ⟨y104, hy104⟩ : ∃ y_ : List (S106), y_ = (x1_2.drop 1) := ⟨_, rfl⟩
             replace H : (reset_less_uint64.l1 k2 y104 0 l0 (l0.length : Int) x12_1 ((rd_T106 l0 x12_1).f0) ((rd_T106 l0 x12_1).f1)) = some (r1, r2) := by first | (rw [hy104]; with_reducible exact H) | (have H2_ := (Option.bind_some _ _).symm.trans H; rw [hy104]; with_reducible exact H2_) | (have H2_ := (Option.bind_some _ _).symm.trans H; with_reducible exact H2_) | with_reducible exact H | (rw [hy104]; exact H) | exact H
             have Ny104 := Aside0.mk hy104
             clear hy104
             have H' := Aside0.mk H
             clear H
             obtain ⟨Ao13, co13, eo13⟩ := Kd.V_slice HO_1.out
             subst eo13
             have p103 : 0 ≤ (0 : Int) := (by omega)
             have q103 : 0 < (x1_2.length : Int) := of_decide_eq_true (by first | (with_reducible assumption) | assumption)
             obtain ⟨ad103, e103, hx103_0, hx103_1⟩ := at_T106 (Kd.V_reads' HO_1.out).2.2 0 p103 q103
             cases e103
             have qi103 : (0 < x1_2.length) = True := eq_true (by omega)
             (try rw [show ((0 : Int)).toNat = 0 from rfl] at hx103_0)
             (try rw [show 0 * 2 = 0 from rfl] at hx103_0)
             (try rw [Addr.add_zero'] at hx103_0)
             (try rw [show ((0 : Int)).toNat = 0 from rfl] at hx103_1)
             (try rw [show 0 * 2 = 0 from rfl] at hx103_1)
             (try rw [Addr.add_zero'] at hx103_1)
             replace p103 := eq_true p103
             replace q103 := eq_true q103
             have hcz14_0 : wr.cell? ⟨gb102, 0, none⟩ = some (.int .i64 ((rd_T106 l0 x12_1).f0)) := (blk_cell BK102.out 0).trans rfl
             have hcz14_1 : wr.cell? ⟨gb102, 1, none⟩ = some (.int .u64 ((rd_T106 l0 x12_1).f1)) := (blk_cell BK102.out 1).trans rfl
             have hfz14_0 := blk_frozen BK102.out 0
             have hfz14_1 := blk_frozen BK102.out 1
             have q15 : (1 : Int) ≤ ((x1_2.length : Int) : Int) := of_decide_eq_true (by first | (with_reducible assumption) | assumption)
             obtain ⟨i015, hi015, _, hsz15, _⟩ := info_parts info106
             have hroom15 : x1_2.length ≤ co13 := (Kd.V_reads' HO_1.out).2.1
             have hC15 : Kd.F k106 _ _ (some ad103) x1_2.length x1_2 := (Kd.V_at (base := w.heap.size) HO_1.out).2.2
             have hcut15 := cut_from (P := Try.prog) 100 106 .i64 Try.underlying100 hi015 2 hsz15 (some ad103) x1_2.length co13 1 (by omega) q15
             have hr15 := Kd.F_cut (m := (1 : Int).toNat) (c := co13) hC15 (by omega) hroom15
             obtain ⟨A15, hA15⟩ : ∃ A1, A1 = (if co13 = (1 : Int).toNat then (some ad103) else ((some ad103) : Option Addr).map (·.add ((1 : Int).toNat * 2))) := ⟨_, rfl⟩
             obtain ⟨c15, hc15⟩ : ∃ c1, c1 = co13 - (1 : Int).toNat := ⟨_, rfl⟩
             have hy15 : y104.length = x1_2.length - (1 : Int).toNat := (by rw [Ny104.out, List.length_drop] <;> omega)
             rw [show (x1_2).drop (1 : Int).toNat = y104 from Ny104.out.symm] at hr15
             replace hr15 : Kd.F k106 _ _ A15 y104.length y104 := (by rw [hA15]; exact hr15)
             rw [← hy15, ← hA15, ← hc15] at hcut15
             have HO108 := Aside0.mk (show Kd.V k106 106 _ w.heap.size _ (.slice A15 y104.length c15) y104 from Kd.V_mk (by rw [hy15, hc15]; exact Nat.sub_le_sub_right hroom15 _) hr15)
             have HC108 := Aside0.mk (show y104.length ≤ c15 from by rw [hy15, hc15]; exact Nat.sub_le_sub_right hroom15 _)
             clear hr15 hC15 hroom15 hi015 hsz15 hc15
             have KY15 := Aside0.mk hy15
             have KA15 := Aside0.mk hA15
             clear hy15 hA15
             replace q15 := eq_true q15
             go_wp2
             repeat (go_quiet (fail); try go_wp2)
             go_roundg k2
             case measure => have := HK1.out; have := HK2.out; omega
             case rel => exact ⟨(y104), H', ⟨by have := HK1.out; have := HK2.out; omega⟩, ⟨by (with_reducible repeat (first | apply Kd.V_alloc | apply Kd.V_drewN | apply Kd.V_drew)); exact HO108.out⟩, ⟨by (with_reducible repeat (first | refine blk_drewN ?_ _ | refine blk_drew ?_ | refine blk_alloc ?_ _)); exact BK102.out⟩, ⟨by repeat (first | (with_reducible first | exact HB.out | apply below_alloc | apply pw_below_drewN | apply below_drew1 | refine below_set ?_ GE102.out) | exact HB.out)⟩⟩
            ·rw [if_neg c12] at H
             exact absurd H (by simp)
           ·rw [if_neg c11] at H
            have c11b0 : decide (((rd_T106 x1_2 0).f0) < ((rd_T106 l0 x12_1).f0)) = false := decide_eq_false c11
            clear c11
            have H' := Aside0.mk H
            clear H
            obtain ⟨Ao16, co16, eo16⟩ := Kd.V_slice HO_1.out
            subst eo16
            have p103 : 0 ≤ (0 : Int) := (by omega)
            have q103 : 0 < (x1_2.length : Int) := of_decide_eq_true (by first | (with_reducible assumption) | assumption)
            obtain ⟨ad103, e103, hx103_0, hx103_1⟩ := at_T106 (Kd.V_reads' HO_1.out).2.2 0 p103 q103
            cases e103
            have qi103 : (0 < x1_2.length) = True := eq_true (by omega)
            (try rw [show ((0 : Int)).toNat = 0 from rfl] at hx103_0)
            (try rw [show 0 * 2 = 0 from rfl] at hx103_0)
            (try rw [Addr.add_zero'] at hx103_0)
            (try rw [show ((0 : Int)).toNat = 0 from rfl] at hx103_1)
            (try rw [show 0 * 2 = 0 from rfl] at hx103_1)
            (try rw [Addr.add_zero'] at hx103_1)
            replace p103 := eq_true p103
            replace q103 := eq_true q103
            have hcz17_0 : wr.cell? ⟨gb102, 0, none⟩ = some (.int .i64 ((rd_T106 l0 x12_1).f0)) := (blk_cell BK102.out 0).trans rfl
            have hcz17_1 : wr.cell? ⟨gb102, 1, none⟩ = some (.int .u64 ((rd_T106 l0 x12_1).f1)) := (blk_cell BK102.out 1).trans rfl
            have hfz17_0 := blk_frozen BK102.out 0
            have hfz17_1 := blk_frozen BK102.out 1
            go_wp2
            repeat (go_quiet (fail); try go_wp2)
            go_meet
            case rel => exact ⟨_, (x1_2), H', ⟨by have := HK1.out; have := HK2.out; first | omega | exact Nat.le_refl _⟩, ⟨by (with_reducible repeat (first | apply Kd.V_alloc | apply Kd.V_drewN | apply Kd.V_drew)); exact HO_1.out⟩, ⟨by (with_reducible repeat (first | refine blk_drewN ?_ _ | refine blk_drew ?_ | refine blk_alloc ?_ _)); exact BK102.out⟩, ⟨by repeat (first | (with_reducible first | exact HB.out | apply below_alloc | apply pw_below_drewN | apply below_drew1 | refine below_set ?_ GE102.out) | exact HB.out)⟩⟩
          ·rw [if_neg c10] at H
           exact absurd H (by simp)
         ·rw [if_neg c9] at H
          have c9b0 : decide (0 < (x1_2.length : Int)) = false := decide_eq_false c9
          have c9b1 : decide (0 < x1_2.length) = false := decide_eq_false (by omega)
          clear c9
          (first | rw [c9b0] | (simp only [i64_w, i32_w]; rw [c9b0]) | skip)
          have H' := Aside0.mk H
          clear H
          obtain ⟨Ao18, co18, eo18⟩ := Kd.V_slice HO_1.out
          subst eo18
          go_wp2
          repeat (go_quiet (fail); try go_wp2)
          go_meet
          case rel => exact ⟨_, (x1_2), H', ⟨by have := HK1.out; have := HK2.out; first | omega | exact Nat.le_refl _⟩, ⟨by (with_reducible repeat (first | apply Kd.V_alloc | apply Kd.V_drewN | apply Kd.V_drew)); exact HO_1.out⟩, ⟨by (with_reducible repeat (first | refine blk_drewN ?_ _ | refine blk_drew ?_ | refine blk_alloc ?_ _)); exact BK102.out⟩, ⟨by repeat (first | (with_reducible first | exact HB.out | apply below_alloc | apply pw_below_drewN | apply below_drew1 | refine below_set ?_ GE102.out) | exact HB.out)⟩⟩
      case rest =>
       clear HC6
       try clear c1
       try clear p1
       try clear q1
       try clear hx1
       try clear qi1
       try clear p2
       try clear c3
       try clear c3b0
       try clear c4
       try clear c4b0
       try clear c5
       try clear c5b0
       try clear c9
       try clear c9b0
       try clear c9b1
       try clear c10
       try clear c10b0
       try clear c10b1
       try clear p10
       try clear q10
       try clear hx10
       try clear qi10
       try clear c11
       try clear c11b0
       try clear c12
       try clear c12b0
       try clear c12b1
       try clear c15
       try clear q15
       try clear hcz14_0
       try clear hcz14_1
       try clear hcz17_0
       try clear hcz17_1
       try clear hcz8_0
       try clear hcz8_1
       try clear hfz14_0
       try clear hfz14_1
       try clear hfz17_0
       try clear hfz17_1
       try clear hfz8_0
       try clear hfz8_1
       try clear hx101_0
       try clear hx101_1
       try clear hx103_0
       try clear hx103_1
       try clear p1
       try clear p101
       try clear p103
       try clear p2
       try clear q1
       try clear q101
       try clear q103
       try clear q15
       obtain ⟨kq, x1_5, HA, HJ5, HO_1, BK102, HB⟩ := hcut
       cases kq with
       | zero => exact absurd HA.out (by simp [reset_less_uint64.j2])
       | succ kj5 =>
        have H := HA.out
        clear HA
        simp only [reset_less_uint64.j2] at H
        have HC19 := Aside0.mk H
        clear H
        go_upto_region 8 with (fail)
        repeat (go_quiet (fail); go_upto_region 8 with (fail))
        go_cut [42] (fun v42 wc => ∃ (kq : Nat) (x42_18 : Bool), v42 = .bool x42_18 ∧ Aside0 (reset_less_uint64.j3 kq x1_5 0 0 l0 (l0.length : Int) x12_1 x42_18 ((rd_T106 l0 x12_1).f0) ((rd_T106 l0 x12_1).f1) = some (r1, r2)) ∧ Aside0 (kq ≤ kj5) ∧ Aside0 (Kd.V k106 106 wc w.heap.size (fun k_ => (P1_ k_ ∨ w.heap.size ≤ k_) ∧ k_ ≠ gb102) u1 x1_5) ∧ Aside0 (wc.heap[gb102]? = some (.cells #[.int .i64 ((rd_T106 l0 x12_1).f0), .int .u64 ((rd_T106 l0 x12_1).f1)] 106 (0, 0))) ∧ Aside0 (Below w.heap.size w wc))
        case first =>
         have H := HC19.out
         clear HC19
         by_cases c20 : (x1_5.length : Int) > 0
         ·rw [if_pos c20] at H
          have c20b0 : decide (0 < (x1_5.length : Int)) = true := decide_eq_true c20
          have c20b1 : decide (0 < x1_5.length) = true := decide_eq_true (by omega)
          clear c20
          (first | rw [c20b0] | (simp only [i64_w, i32_w]; rw [c20b0]) | skip)
          by_cases c21 : 0 < (x1_5.length : Int)
          ·rw [if_pos c21] at H
           have c21b0 : decide (0 < (x1_5.length : Int)) = true := decide_eq_true c21
           have c21b1 : decide (0 < x1_5.length) = true := decide_eq_true (by omega)
           clear c21
           have H' := Aside0.mk H
           clear H
           obtain ⟨Ao22, co22, eo22⟩ := Kd.V_slice HO_1.out
           subst eo22
           have p109 : 0 ≤ (0 : Int) := (by omega)
           have q109 : 0 < (x1_5.length : Int) := of_decide_eq_true (by first | (with_reducible assumption) | assumption)
           obtain ⟨ad109, e109, hx109_0, hx109_1⟩ := at_T106 (Kd.V_reads' HO_1.out).2.2 0 p109 q109
           cases e109
           have qi109 : (0 < x1_5.length) = True := eq_true (by omega)
           (try rw [show ((0 : Int)).toNat = 0 from rfl] at hx109_0)
           (try rw [show 0 * 2 = 0 from rfl] at hx109_0)
           (try rw [Addr.add_zero'] at hx109_0)
           (try rw [show ((0 : Int)).toNat = 0 from rfl] at hx109_1)
           (try rw [show 0 * 2 = 0 from rfl] at hx109_1)
           (try rw [Addr.add_zero'] at hx109_1)
           replace p109 := eq_true p109
           replace q109 := eq_true q109
           have hcz23_0 : wc.cell? ⟨gb102, 0, none⟩ = some (.int .i64 ((rd_T106 l0 x12_1).f0)) := (blk_cell BK102.out 0).trans rfl
           have hcz23_1 : wc.cell? ⟨gb102, 1, none⟩ = some (.int .u64 ((rd_T106 l0 x12_1).f1)) := (blk_cell BK102.out 1).trans rfl
           have hfz23_0 := blk_frozen BK102.out 0
           have hfz23_1 := blk_frozen BK102.out 1
           go_wp2
           repeat (go_quiet (fail); try go_wp2)
           go_meet
           case rel => exact ⟨_, ((((rd_T106 x1_5 0).f0) == ((rd_T106 l0 x12_1).f0))), (by first | rfl | (simp; done) | (simp [*]; done)), H', ⟨by have := HK1.out; have := HJ5.out; first | omega | exact Nat.le_refl _⟩, ⟨by (with_reducible repeat (first | apply Kd.V_alloc | apply Kd.V_drewN | apply Kd.V_drew)); exact HO_1.out⟩, ⟨by (with_reducible repeat (first | refine blk_drewN ?_ _ | refine blk_drew ?_ | refine blk_alloc ?_ _)); exact BK102.out⟩, ⟨by repeat (first | (with_reducible first | exact HB.out | apply below_alloc | apply pw_below_drewN | apply below_drew1 | refine below_set ?_ GE102.out) | exact HB.out)⟩⟩
          ·rw [if_neg c21] at H
           exact absurd H (by simp)
         ·rw [if_neg c20] at H
          have c20b0 : decide (0 < (x1_5.length : Int)) = false := decide_eq_false c20
          have c20b1 : decide (0 < x1_5.length) = false := decide_eq_false (by omega)
          clear c20
          (first | rw [c20b0] | (simp only [i64_w, i32_w]; rw [c20b0]) | skip)
          have H' := Aside0.mk H
          clear H
          obtain ⟨Ao24, co24, eo24⟩ := Kd.V_slice HO_1.out
          subst eo24
          go_wp2
          repeat (go_quiet (fail); try go_wp2)
          go_meet
          case rel => exact ⟨_, (false), (by first | rfl | (simp; done) | (simp [*]; done)), H', ⟨by have := HK1.out; have := HJ5.out; first | omega | exact Nat.le_refl _⟩, ⟨by (with_reducible repeat (first | apply Kd.V_alloc | apply Kd.V_drewN | apply Kd.V_drew)); exact HO_1.out⟩, ⟨by (with_reducible repeat (first | refine blk_drewN ?_ _ | refine blk_drew ?_ | refine blk_alloc ?_ _)); exact BK102.out⟩, ⟨by repeat (first | (with_reducible first | exact HB.out | apply below_alloc | apply pw_below_drewN | apply below_drew1 | refine below_set ?_ GE102.out) | exact HB.out)⟩⟩
        case rest =>
         clear HC19
         try clear c1
         try clear p1
         try clear q1
         try clear hx1
         try clear qi1
         try clear c2
         try clear p2
         try clear c3
         try clear c3b0
         try clear c4
         try clear c4b0
         try clear c5
         try clear c5b0
         try clear c9
         try clear c9b0
         try clear c9b1
         try clear c10
         try clear c10b0
         try clear c10b1
         try clear p10
         try clear q10
         try clear hx10
         try clear qi10
         try clear c11
         try clear c11b0
         try clear c12
         try clear c12b0
         try clear c12b1
         try clear c15
         try clear q15
         try clear c20
         try clear c20b0
         try clear c20b1
         try clear c21
         try clear c21b0
         try clear c21b1
         try clear hcz14_0
         try clear hcz14_1
         try clear hcz17_0
         try clear hcz17_1
         try clear hcz23_0
         try clear hcz23_1
         try clear hcz8_0
         try clear hcz8_1
         try clear hfz14_0
         try clear hfz14_1
         try clear hfz17_0
         try clear hfz17_1
         try clear hfz23_0
         try clear hfz23_1
         try clear hfz8_0
         try clear hfz8_1
         try clear hx101_0
         try clear hx101_1
         try clear hx103_0
         try clear hx103_1
         try clear hx109_0
         try clear hx109_1
         try clear p1
         try clear p10
         try clear p101
         try clear p103
         try clear p109
         try clear p2
         try clear q1
         try clear q10
         try clear q101
         try clear q103
         try clear q109
         try clear q15
         obtain ⟨kq, x42_18, rfl, HA, HJ18, HO_1, BK102, HB⟩ := hcut
         cases kq with
         | zero => exact absurd HA.out (by simp [reset_less_uint64.j3])
         | succ kj18 =>
          have H := HA.out
          clear HA
          simp only [reset_less_uint64.j3] at H
          by_cases c25 : x42_18 = true
          ·subst c25
           have H1 : (if 0 < (x1_5.length : Int) then (if ((rd_T106 x1_5 0).f1) < ((rd_T106 l0 x12_1).f1) then (some (((rd_T106 l0 x12_1).f0), true)) else (reset_less_uint64.l0 kj18 x1_5 0 l0 (l0.length : Int) (wrap64 (x12_1 + 1)))) else (none)) = some (r1, r2) := by rw [if_pos rfl] at H; exact H
           clear H
           have H := H1
           clear H1
           by_cases c26 : 0 < (x1_5.length : Int)
           ·rw [if_pos c26] at H
            have c26b0 : decide (0 < (x1_5.length : Int)) = true := decide_eq_true c26
            have c26b1 : decide (0 < x1_5.length) = true := decide_eq_true (by omega)
            clear c26
            by_cases c27 : ((rd_T106 x1_5 0).f1) < ((rd_T106 l0 x12_1).f1)
            ·rw [if_pos c27] at H
             have c27b0 : decide (((rd_T106 x1_5 0).f1) < ((rd_T106 l0 x12_1).f1)) = true := decide_eq_true c27
             clear c27
             simp only [Option.some.injEq, Prod.mk.injEq] at H
             obtain ⟨rfl, rfl⟩ := H
             obtain ⟨Ao28, co28, eo28⟩ := Kd.V_slice HO_1.out
             subst eo28
             have p110 : 0 ≤ (0 : Int) := (by omega)
             have q110 : 0 < (x1_5.length : Int) := of_decide_eq_true (by first | (with_reducible assumption) | assumption)
             obtain ⟨ad110, e110, hx110_0, hx110_1⟩ := at_T106 (Kd.V_reads' HO_1.out).2.2 0 p110 q110
             cases e110
             have qi110 : (0 < x1_5.length) = True := eq_true (by omega)
             (try rw [show ((0 : Int)).toNat = 0 from rfl] at hx110_0)
             (try rw [show 0 * 2 = 0 from rfl] at hx110_0)
             (try rw [Addr.add_zero'] at hx110_0)
             (try rw [show ((0 : Int)).toNat = 0 from rfl] at hx110_1)
             (try rw [show 0 * 2 = 0 from rfl] at hx110_1)
             (try rw [Addr.add_zero'] at hx110_1)
             replace p110 := eq_true p110
             replace q110 := eq_true q110
             have hcz29_0 : wc.cell? ⟨gb102, 0, none⟩ = some (.int .i64 ((rd_T106 l0 x12_1).f0)) := (blk_cell BK102.out 0).trans rfl
             have hcz29_1 : wc.cell? ⟨gb102, 1, none⟩ = some (.int .u64 ((rd_T106 l0 x12_1).f1)) := (blk_cell BK102.out 1).trans rfl
             have hfz29_0 := blk_frozen BK102.out 0
             have hfz29_1 := blk_frozen BK102.out 1
             go_wp2
             repeat (go_quiet (fail); try go_wp2)
             go_ret2
             exact ⟨by first | rfl | (simp [errW_none, errW_some] <;> rfl) | (simp [*, errW_none, errW_some] <;> rfl), by repeat (first | (with_reducible first | exact HB.out | apply below_alloc | apply pw_below_drewN | apply below_drew1 | refine below_set ?_ GE102.out) | exact HB.out)⟩
            ·rw [if_neg c27] at H
             have c27b0 : decide (((rd_T106 x1_5 0).f1) < ((rd_T106 l0 x12_1).f1)) = false := decide_eq_false c27
             clear c27
             have H' := Aside0.mk H
             clear H
             obtain ⟨Ao30, co30, eo30⟩ := Kd.V_slice HO_1.out
             subst eo30
             have p110 : 0 ≤ (0 : Int) := (by omega)
             have q110 : 0 < (x1_5.length : Int) := of_decide_eq_true (by first | (with_reducible assumption) | assumption)
             obtain ⟨ad110, e110, hx110_0, hx110_1⟩ := at_T106 (Kd.V_reads' HO_1.out).2.2 0 p110 q110
             cases e110
             have qi110 : (0 < x1_5.length) = True := eq_true (by omega)
             (try rw [show ((0 : Int)).toNat = 0 from rfl] at hx110_0)
             (try rw [show 0 * 2 = 0 from rfl] at hx110_0)
             (try rw [Addr.add_zero'] at hx110_0)
             (try rw [show ((0 : Int)).toNat = 0 from rfl] at hx110_1)
             (try rw [show 0 * 2 = 0 from rfl] at hx110_1)
             (try rw [Addr.add_zero'] at hx110_1)
             replace p110 := eq_true p110
             replace q110 := eq_true q110
             have hcz31_0 : wc.cell? ⟨gb102, 0, none⟩ = some (.int .i64 ((rd_T106 l0 x12_1).f0)) := (blk_cell BK102.out 0).trans rfl
             have hcz31_1 : wc.cell? ⟨gb102, 1, none⟩ = some (.int .u64 ((rd_T106 l0 x12_1).f1)) := (blk_cell BK102.out 1).trans rfl
             have hfz31_0 := blk_frozen BK102.out 0
             have hfz31_1 := blk_frozen BK102.out 1
             go_wp2
             repeat (go_quiet (fail); try go_wp2)
             go_roundg kj18
             case measure => have := HK1.out; have := HJ5.out; have := HJ18.out; omega
             case rel => exact ⟨(x1_5), (wrap64 (x12_1 + 1)), (by first | rfl | (simp; done) | (simp [*]; done)), H', ⟨by have := HK1.out; have := HJ5.out; have := HJ18.out; omega⟩, ⟨by (with_reducible repeat (first | apply Kd.V_alloc | apply Kd.V_drewN | apply Kd.V_drew)); exact Kd.V_mono HO_1.out (fun _ hk => hk.1)⟩, ⟨by repeat (first | (with_reducible first | exact HB.out | apply below_alloc | apply pw_below_drewN | apply below_drew1 | refine below_set ?_ GE102.out) | exact HB.out)⟩⟩
           ·rw [if_neg c26] at H
            exact absurd H (by simp)
          ·replace c25 := Bool.eq_false_iff.mpr c25
           subst c25
           have H1 : (if 0 < ((rd_T106 l0 x12_1).f1) then (some (((rd_T106 l0 x12_1).f0), true)) else (reset_less_uint64.l0 kj18 x1_5 0 l0 (l0.length : Int) (wrap64 (x12_1 + 1)))) = some (r1, r2) := by rw [if_neg (show ¬ (false = true) by decide)] at H; exact H
           clear H
           have H := H1
           clear H1
           by_cases c32 : 0 < ((rd_T106 l0 x12_1).f1)
           ·rw [if_pos c32] at H
            have c32b0 : decide (0 < ((rd_T106 l0 x12_1).f1)) = true := decide_eq_true c32
            clear c32
            simp only [Option.some.injEq, Prod.mk.injEq] at H
            obtain ⟨rfl, rfl⟩ := H
            have hcz33_0 : wc.cell? ⟨gb102, 0, none⟩ = some (.int .i64 ((rd_T106 l0 x12_1).f0)) := (blk_cell BK102.out 0).trans rfl
            have hcz33_1 : wc.cell? ⟨gb102, 1, none⟩ = some (.int .u64 ((rd_T106 l0 x12_1).f1)) := (blk_cell BK102.out 1).trans rfl
            have hfz33_0 := blk_frozen BK102.out 0
            have hfz33_1 := blk_frozen BK102.out 1
            go_wp2
            repeat (go_quiet (fail); try go_wp2)
            go_ret2
            exact ⟨by first | rfl | (simp [errW_none, errW_some] <;> rfl) | (simp [*, errW_none, errW_some] <;> rfl), by repeat (first | (with_reducible first | exact HB.out | apply below_alloc | apply pw_below_drewN | apply below_drew1 | refine below_set ?_ GE102.out) | exact HB.out)⟩
           ·rw [if_neg c32] at H
            have c32b0 : decide (0 < ((rd_T106 l0 x12_1).f1)) = false := decide_eq_false c32
            clear c32
            have H' := Aside0.mk H
            clear H
            have hcz34_0 : wc.cell? ⟨gb102, 0, none⟩ = some (.int .i64 ((rd_T106 l0 x12_1).f0)) := (blk_cell BK102.out 0).trans rfl
            have hcz34_1 : wc.cell? ⟨gb102, 1, none⟩ = some (.int .u64 ((rd_T106 l0 x12_1).f1)) := (blk_cell BK102.out 1).trans rfl
            have hfz34_0 := blk_frozen BK102.out 0
            have hfz34_1 := blk_frozen BK102.out 1
            go_wp2
            repeat (go_quiet (fail); try go_wp2)
            go_roundg kj18
            case measure => have := HK1.out; have := HJ5.out; have := HJ18.out; omega
            case rel => exact ⟨(x1_5), (wrap64 (x12_1 + 1)), (by first | rfl | (simp; done) | (simp [*]; done)), H', ⟨by have := HK1.out; have := HJ5.out; have := HJ18.out; omega⟩, ⟨by (with_reducible repeat (first | apply Kd.V_alloc | apply Kd.V_drewN | apply Kd.V_drew)); exact Kd.V_mono HO_1.out (fun _ hk => hk.1)⟩, ⟨by repeat (first | (with_reducible first | exact HB.out | apply below_alloc | apply pw_below_drewN | apply below_drew1 | refine below_set ?_ GE102.out) | exact HB.out)⟩⟩
     ·rw [if_neg c5] at H
      exact absurd H (by simp)
    ·rw [if_neg c4] at H
     exact absurd H (by simp)
   ·rw [if_neg c3] at H
    have c3b0 : decide (x12_1 < (l0.length : Int)) = false := decide_eq_false c3
    clear c3
    simp only [Option.some.injEq, Prod.mk.injEq] at H
    obtain ⟨rfl, rfl⟩ := H
    go_wp2
    repeat (go_quiet (fail); try go_wp2)
    go_ret2
    exact ⟨by first | rfl | (simp [errW_none, errW_some] <;> rfl) | (simp [*, errW_none, errW_some] <;> rfl), by repeat (first | (with_reducible first | exact HB.out | apply below_alloc | apply pw_below_drewN | apply below_drew1) | exact HB.out)⟩
end Go.Proofs.Ytefiabakfpfbaaa.P
namespace Go.Proofs.Ytefiabakfpfbaaa.P
open Go.RowKit Go.Shelf Go.Proofs.YtefiabakfpfbaaaW.PrintWords Go.Proofs.YtefiabakfpfbaaaW.PrintLast Go.Proofs.YtefiabakfpfbaaaW.PrintMore
def lessI (a b : List Pr) : Int × Bool := match a.find? (fun p => decide (look (fun q : Pr => q.f0) (fun q : Pr => q.f1) b p.f0 < p.f1)) with | some p => (p.f0, true) | none => (0, false)
theorem lessI_in (a : List Pr) (la i P V : Int) (m : Nat) (r : Option (Int × Bool)) : ∀ (b : List Pr) (k : Nat), b.length + m + 1 < k → (∀ k', (dropTo (fun q : Pr => q.f0) P b).length + m < k' → reset_less_int64.j2 k' (dropTo (fun q : Pr => q.f0) P b) 0 a la i P V = r) → reset_less_int64.l1 k b 0 a la i P V = r
  | [], k, hk, hj => by
    simp only [List.length_nil] at hk
    obtain ⟨k, rfl⟩ : ∃ n, k = n + 1 := ⟨k - 1, by omega⟩
    rw [reset_less_int64.l1, if_neg (by simp)]
    exact hj k (by simp only [dropTo, List.length_nil]; omega)
  | x :: b, k, hk, hj => by
    simp only [List.length_cons] at hk
    obtain ⟨k, rfl⟩ : ∃ n, k = n + 1 := ⟨k - 1, by omega⟩
    have h0 : rd_T130 (x :: b) 0 = x := rdPr_at (l := x :: b) (i := 0) (by simp)
    rw [reset_less_int64.l1, if_pos (by simp <;> omega), if_pos (by simp <;> omega), h0]
    by_cases c : x.f0 < P
    · rw [if_pos c, if_pos (by simp <;> omega)]
      have hd : dropTo (fun q : Pr => q.f0) P (x :: b) = dropTo (fun q : Pr => q.f0) P b := by simp only [dropTo]; rw [if_pos c]
      rw [hd] at hj
      exact lessI_in a la i P V m r b k (by omega) hj
    · rw [if_neg c]
      have hd : dropTo (fun q : Pr => q.f0) P (x :: b) = x :: b := by simp only [dropTo]; rw [if_neg c]
      rw [hd] at hj
      exact hj k (by simp only [List.length_cons]; omega)
theorem lessI_loop (a b : List Pr) (ha : Ups (fun q : Pr => q.f0) a) (hm : a.length < 4611686018427387904) : ∀ (d k i : Nat) (b' : List Pr), a.length - i = d → b'.length + 5 * d + 1 < k → i ≤ a.length → Ups (fun q : Pr => q.f0) b' → (∀ x ∈ a.drop i, look (fun q : Pr => q.f0) (fun q : Pr => q.f1) b' x.f0 = look (fun q : Pr => q.f0) (fun q : Pr => q.f1) b x.f0) →
    reset_less_int64.l0 k b' 0 a (a.length : Int) (i : Int) = some (lessI (a.drop i) b) := by
  intro d
  induction d with
  | zero =>
    intro k i b' hd hk hi hu hl
    obtain ⟨k, rfl⟩ : ∃ n, k = n + 1 := ⟨k - 1, by omega⟩
    rw [reset_less_int64.l0, if_neg (by omega), drop_end (by omega)]; rfl
  | succ d ih =>
    intro k i b' hd hk hi hu hl
    obtain ⟨k, rfl⟩ : ∃ n, k = n + 1 := ⟨k - 1, by omega⟩
    have hlt : i < a.length := by omega
    have hau : Ups (fun q : Pr => q.f0) (a.drop i) := List.Pairwise.sublist (List.drop_sublist i a) ha
    rw [drop_at hlt] at hl hau
    rw [reset_less_int64.l0, if_pos (by omega), if_pos (by omega), if_pos (by omega), rdPr_at hlt, drop_at hlt]
    have hhd : ∀ y ∈ a.drop (i + 1), a[i].f0 < y.f0 := fun y hy => Ups.head hau y hy
    have hx := hl a[i] (List.mem_cons_self ..)
    have hh := dropTo_head (val := fun q : Pr => q.f1) (p := a[i].f0) b' hu
    have hrec : ∀ k', (dropTo (fun q : Pr => q.f0) a[i].f0 b').length + 5 * d + 1 < k' → reset_less_int64.l0 k' (dropTo (fun q : Pr => q.f0) a[i].f0 b') 0 a (a.length : Int) ((i + 1 : Nat) : Int) = some (lessI (a.drop (i + 1)) b) := fun k' hk' =>
      ih k' (i + 1) _ (by omega) (by omega) (by omega) (dropTo_ups b' hu) (fun y hy => by
        rw [dropTo_look (val := fun q : Pr => q.f1) (Int.le_of_lt (hhd y hy)) b']
        exact hl y (List.mem_cons_of_mem _ hy))
    have hres : lessI (a[i] :: a.drop (i + 1)) b = if look (fun q : Pr => q.f0) (fun q : Pr => q.f1) b a[i].f0 < a[i].f1 then (a[i].f0, true) else lessI (a.drop (i + 1)) b := by
      unfold lessI
      rw [List.find?_cons]
      by_cases c : look (fun q : Pr => q.f0) (fun q : Pr => q.f1) b a[i].f0 < a[i].f1
      · rw [decide_eq_true c, if_pos c]
      · rw [decide_eq_false c, if_neg c]
    rw [hres, ← hx]
    refine lessI_in a _ _ _ _ (5 * d + 3) _ b' k (by omega) ?_
    · intro k' hk'
      obtain ⟨k', rfl⟩ : ∃ n, k' = n + 2 := ⟨k' - 2, by omega⟩
      generalize dropTo (fun q : Pr => q.f0) a[i].f0 b' = D at *
      rw [reset_less_int64.j2]
      cases D with
      | nil =>
        rw [if_neg (by simp), reset_less_int64.j3, if_neg (by simp), hh]
        by_cases c : (0 : Int) < a[i].f1
        · rw [if_pos c]; simp only [if_pos c]
        · rw [if_neg c, wrap_succ (by omega), hrec k' (by omega)]; simp only [if_neg c]
      | cons y D =>
        have h0 : rd_T130 (y :: D) 0 = y := rdPr_at (l := y :: D) (i := 0) (by simp)
        rw [if_pos (by simp <;> omega), if_pos (by simp <;> omega), h0, reset_less_int64.j3, h0]
        simp only at hh
        by_cases c : y.f0 = a[i].f0
        · rw [if_pos c] at hh
          rw [if_pos (by simpa using c), if_pos (by simp <;> omega), hh]
          by_cases c2 : y.f1 < a[i].f1
          · rw [if_pos c2]; simp only [if_pos c2]
          · rw [if_neg c2, wrap_succ (by omega), hrec k' (by omega)]; simp only [if_neg c2]
        · rw [if_neg c] at hh
          rw [if_neg (by simpa using c), hh]
          by_cases c2 : (0 : Int) < a[i].f1
          · rw [if_pos c2]; simp only [if_pos c2]
          · rw [if_neg c2, wrap_succ (by omega), hrec k' (by omega)]; simp only [if_neg c2]
theorem lessI_eq (a b : List Pr) (ha : Ups (fun q : Pr => q.f0) a) (hb : Ups (fun q : Pr => q.f0) b) (hm : a.length < 4611686018427387904) (k : Nat) (hk : b.length + 5 * a.length + 1 < k) : reset_less_int64.f k a b = some (lessI a b) := by
  unfold reset_less_int64.f
  exact lessI_loop a b ha hm a.length k 0 b (by omega) hk (by omega) hb (fun x _ => rfl)
def lessF (a b : List Pu) : Int × Bool := match a.find? (fun p => decide (look (fun q : Pu => q.f0) (fun q : Pu => q.f1) b p.f0 < p.f1)) with | some p => (p.f0, true) | none => (0, false)
theorem lessF_in (a : List Pu) (la i P V : Int) (m : Nat) (r : Option (Int × Bool)) : ∀ (b : List Pu) (k : Nat), b.length + m + 1 < k → (∀ k', (dropTo (fun q : Pu => q.f0) P b).length + m < k' → reset_less_uint64.j2 k' (dropTo (fun q : Pu => q.f0) P b) 0 a la i P V = r) → reset_less_uint64.l1 k b 0 a la i P V = r
  | [], k, hk, hj => by
    simp only [List.length_nil] at hk
    obtain ⟨k, rfl⟩ : ∃ n, k = n + 1 := ⟨k - 1, by omega⟩
    rw [reset_less_uint64.l1, if_neg (by simp)]
    exact hj k (by simp only [dropTo, List.length_nil]; omega)
  | x :: b, k, hk, hj => by
    simp only [List.length_cons] at hk
    obtain ⟨k, rfl⟩ : ∃ n, k = n + 1 := ⟨k - 1, by omega⟩
    have h0 : rd_T106 (x :: b) 0 = x := rdPu_at (l := x :: b) (i := 0) (by simp)
    rw [reset_less_uint64.l1, if_pos (by simp <;> omega), if_pos (by simp <;> omega), h0]
    by_cases c : x.f0 < P
    · rw [if_pos c, if_pos (by simp <;> omega)]
      have hd : dropTo (fun q : Pu => q.f0) P (x :: b) = dropTo (fun q : Pu => q.f0) P b := by simp only [dropTo]; rw [if_pos c]
      rw [hd] at hj
      exact lessF_in a la i P V m r b k (by omega) hj
    · rw [if_neg c]
      have hd : dropTo (fun q : Pu => q.f0) P (x :: b) = x :: b := by simp only [dropTo]; rw [if_neg c]
      rw [hd] at hj
      exact hj k (by simp only [List.length_cons]; omega)
theorem lessF_loop (a b : List Pu) (ha : Ups (fun q : Pu => q.f0) a) (hm : a.length < 4611686018427387904) : ∀ (d k i : Nat) (b' : List Pu), a.length - i = d → b'.length + 5 * d + 1 < k → i ≤ a.length → Ups (fun q : Pu => q.f0) b' → (∀ x ∈ a.drop i, look (fun q : Pu => q.f0) (fun q : Pu => q.f1) b' x.f0 = look (fun q : Pu => q.f0) (fun q : Pu => q.f1) b x.f0) →
    reset_less_uint64.l0 k b' 0 a (a.length : Int) (i : Int) = some (lessF (a.drop i) b) := by
  intro d
  induction d with
  | zero =>
    intro k i b' hd hk hi hu hl
    obtain ⟨k, rfl⟩ : ∃ n, k = n + 1 := ⟨k - 1, by omega⟩
    rw [reset_less_uint64.l0, if_neg (by omega), drop_end (by omega)]; rfl
  | succ d ih =>
    intro k i b' hd hk hi hu hl
    obtain ⟨k, rfl⟩ : ∃ n, k = n + 1 := ⟨k - 1, by omega⟩
    have hlt : i < a.length := by omega
    have hau : Ups (fun q : Pu => q.f0) (a.drop i) := List.Pairwise.sublist (List.drop_sublist i a) ha
    rw [drop_at hlt] at hl hau
    rw [reset_less_uint64.l0, if_pos (by omega), if_pos (by omega), if_pos (by omega), rdPu_at hlt, drop_at hlt]
    have hhd : ∀ y ∈ a.drop (i + 1), a[i].f0 < y.f0 := fun y hy => Ups.head hau y hy
    have hx := hl a[i] (List.mem_cons_self ..)
    have hh := dropTo_head (val := fun q : Pu => q.f1) (p := a[i].f0) b' hu
    have hrec : ∀ k', (dropTo (fun q : Pu => q.f0) a[i].f0 b').length + 5 * d + 1 < k' → reset_less_uint64.l0 k' (dropTo (fun q : Pu => q.f0) a[i].f0 b') 0 a (a.length : Int) ((i + 1 : Nat) : Int) = some (lessF (a.drop (i + 1)) b) := fun k' hk' =>
      ih k' (i + 1) _ (by omega) (by omega) (by omega) (dropTo_ups b' hu) (fun y hy => by
        rw [dropTo_look (val := fun q : Pu => q.f1) (Int.le_of_lt (hhd y hy)) b']
        exact hl y (List.mem_cons_of_mem _ hy))
    have hres : lessF (a[i] :: a.drop (i + 1)) b = if look (fun q : Pu => q.f0) (fun q : Pu => q.f1) b a[i].f0 < a[i].f1 then (a[i].f0, true) else lessF (a.drop (i + 1)) b := by
      unfold lessF
      rw [List.find?_cons]
      by_cases c : look (fun q : Pu => q.f0) (fun q : Pu => q.f1) b a[i].f0 < a[i].f1
      · rw [decide_eq_true c, if_pos c]
      · rw [decide_eq_false c, if_neg c]
    rw [hres, ← hx]
    refine lessF_in a _ _ _ _ (5 * d + 3) _ b' k (by omega) ?_
    · intro k' hk'
      obtain ⟨k', rfl⟩ : ∃ n, k' = n + 2 := ⟨k' - 2, by omega⟩
      generalize dropTo (fun q : Pu => q.f0) a[i].f0 b' = D at *
      rw [reset_less_uint64.j2]
      cases D with
      | nil =>
        rw [if_neg (by simp), reset_less_uint64.j3, if_neg (by simp), hh]
        by_cases c : (0 : Int) < a[i].f1
        · rw [if_pos c]; simp only [if_pos c]
        · rw [if_neg c, wrap_succ (by omega), hrec k' (by omega)]; simp only [if_neg c]
      | cons y D =>
        have h0 : rd_T106 (y :: D) 0 = y := rdPu_at (l := y :: D) (i := 0) (by simp)
        rw [if_pos (by simp <;> omega), if_pos (by simp <;> omega), h0, reset_less_uint64.j3, h0]
        simp only at hh
        by_cases c : y.f0 = a[i].f0
        · rw [if_pos c] at hh
          rw [if_pos (by simpa using c), if_pos (by simp <;> omega), hh]
          by_cases c2 : y.f1 < a[i].f1
          · rw [if_pos c2]; simp only [if_pos c2]
          · rw [if_neg c2, wrap_succ (by omega), hrec k' (by omega)]; simp only [if_neg c2]
        · rw [if_neg c] at hh
          rw [if_neg (by simpa using c), hh]
          by_cases c2 : (0 : Int) < a[i].f1
          · rw [if_pos c2]; simp only [if_pos c2]
          · rw [if_neg c2, wrap_succ (by omega), hrec k' (by omega)]; simp only [if_neg c2]
theorem lessF_eq (a b : List Pu) (ha : Ups (fun q : Pu => q.f0) a) (hb : Ups (fun q : Pu => q.f0) b) (hm : a.length < 4611686018427387904) (k : Nat) (hk : b.length + 5 * a.length + 1 < k) : reset_less_uint64.f k a b = some (lessF a b) := by
  unfold reset_less_uint64.f
  exact lessF_loop a b ha hm a.length k 0 b (by omega) hk (by omega) hb (fun x _ => rfl)
end Go.Proofs.Ytefiabakfpfbaaa.P
namespace Go.Proofs.Ytefiabakfpfbaaa.P
open Go.RowKit Go.Shelf Go.Proofs.YtefiabakfpfbaaaW.PrintWords Go.Proofs.YtefiabakfpfbaaaW.PrintLast Go.Proofs.YtefiabakfpfbaaaW.PrintMore
attribute [local go_sem] Oper.semAt_some
def cnts (l : List Pr) : Prop := ∀ p ∈ l, i64 p.f0 ∧ 0 ≤ p.f1 ∧ p.f1 ≤ 9223372036854775807
instance (l : List Pr) : Decidable (cnts l) := by unfold cnts; exact inferInstance
end Go.Proofs.Ytefiabakfpfbaaa.P
namespace Go.Proofs.Ytefiabakfpfbaaa.P
open Go.RowKit Go.Shelf Go.Proofs.YtefiabakfpfbaaaW.PrintWords Go.Proofs.YtefiabakfpfbaaaW.PrintLast Go.Proofs.YtefiabakfpfbaaaW.PrintMore
structure RowOK (l : List Pr) : Prop where
  wf : wfRow l
  len : l.length ≤ 4096
  cnt : cnts l
  ups : Ups (fun p : Pr => p.f0) l
theorem rises_ups : ∀ (l : List Int) (e : Int), rises e l = true → l.Pairwise (· < ·) ∧ ∀ x ∈ l, e ≤ x
  | [], _, _ => ⟨List.Pairwise.nil, fun x hx => by simp at hx⟩
  | p :: l, e, h => by
    simp only [rises, Bool.and_eq_true, decide_eq_true_eq] at h
    obtain ⟨h1, h2⟩ := rises_ups l (p + 1) h.2
    refine ⟨List.pairwise_cons.2 ⟨fun x hx => by have := h2 x hx; omega, h1⟩, fun x hx => ?_⟩
    rcases List.mem_cons.1 hx with rfl | hx
    · exact h.1.1
    · have := h2 x hx; omega
theorem zip_ups : ∀ (ps v : List Int), ps.Pairwise (· < ·) → Ups (fun p : Pr => p.f0) (List.zipWith (fun p x => (⟨p, x⟩ : Pr)) ps v)
  | [], _, _ => by simp [Ups]
  | p :: ps, [], _ => by simp [Ups]
  | p :: ps, x :: v, h => by
    have h1 := List.pairwise_cons.1 h
    refine List.pairwise_cons.2 ⟨fun y hy => ?_, zip_ups ps v h1.2⟩
    have : y.f0 ∈ ps := by
      obtain ⟨i, hi, rfl⟩ := List.mem_iff_getElem.1 hy
      simp only [List.getElem_zipWith]; exact List.getElem_mem _
    exact h1.1 _ this
theorem RowOK.nil : RowOK [] := ⟨⟨fun s hs => by simp at hs, by simp⟩, by simp, fun s hs => by simp at hs, Ups.nil⟩
theorem sideRes_row {l : List Sp} {d : List Int} (hd : i64s d) : RowOK (sideRes l d).1 := by
  by_cases h0 : (sideRes l d).2 = 0
  · obtain ⟨hc, hl⟩ := sideRes_ok hd h0
    unfold sideRes at h0 hc hl ⊢
    by_cases c1 : spCheck l = 0
    rotate_left
    · rw [if_neg c1] at h0; exact absurd h0 c1
    rw [if_pos c1] at h0 hc hl ⊢
    by_cases c2 : cntN l = d.length
    rotate_left
    · rw [if_neg c2] at h0; cases h0
    rw [if_pos c2] at h0 hc hl ⊢
    cases hs : sumsFrom 0 d with
    | none => rw [hs] at h0; cases h0
    | some c =>
      rw [hs] at h0 hc hl
      simp only at h0 hc hl ⊢
      by_cases c3 : c.any (fun x => decide (x < 0)) = true
      · rw [if_pos c3] at h0; cases h0
      rw [if_neg c3] at hc hl ⊢
      have hr := rises_of_right c1
      have hf : ∀ p ∈ List.zipWith (fun p x => (⟨p, x⟩ : Pr)) (plN 0 l) c, -1048576 ≤ p.f0 ∧ p.f0 ≤ 1048576 := by
        intro y hy
        have : y.f0 ∈ plN 0 l := by
          obtain ⟨i, hi, rfl⟩ := List.mem_iff_getElem.1 hy
          simp only [List.getElem_zipWith]; exact List.getElem_mem _
        exact rises_i64 hr _ this
      refine ⟨⟨fun p hp => ?_, by omega⟩, hl, fun p hp => ?_, zip_ups _ _ (rises_ups _ _ hr).1⟩
      · have h1 := hf p hp; have h2 := hc p hp; exact ⟨⟨by omega, by omega⟩, ⟨by omega, by omega⟩⟩
      · have h1 := hf p hp; have h2 := hc p hp; exact ⟨⟨by omega, by omega⟩, h2⟩
  · have : (sideRes l d).1 = [] := by
      unfold sideRes at h0 ⊢
      by_cases c1 : spCheck l = 0
      · rw [if_pos c1] at h0 ⊢
        by_cases c2 : cntN l = d.length
        · rw [if_pos c2] at h0 ⊢
          cases hs : sumsFrom 0 d with
          | none => rfl
          | some c =>
            rw [hs] at h0
            simp only at h0 ⊢
            by_cases c3 : c.any (fun x => decide (x < 0)) = true
            · rw [if_pos c3]
            · rw [if_neg c3] at h0; exact absurd rfl h0
        · rw [if_neg c2]
      · rw [if_neg c1]
    rw [this]; exact RowOK.nil
theorem openR_row {h : Hi} (hw : wfH h) : RowOK (openR h).1 ∧ RowOK (openR h).2.1 := by
  obtain ⟨-, -, -, -, -, -, -, h7, h8, -⟩ := hw
  have a := sideRes_row (l := h.f5) h7
  have b := sideRes_row (l := h.f6) h8
  unfold openR openRes
  repeat' split
  all_goals first | exact ⟨a, b⟩ | exact ⟨RowOK.nil, RowOK.nil⟩
end Go.Proofs.Ytefiabakfpfbaaa.P
namespace Go.Proofs.Ytefiabakfpfbaaa.P
open Go.RowKit Go.Proofs.YtefiabakfpfbaaaW.PrintWords Go.Proofs.YtefiabakfpfbaaaW.PrintLast Go.Proofs.YtefiabakfpfbaaaW.PrintMore
abbrev lookPr (l : List Pr) (p : Int) : Int := look (fun x : Pr => x.f0) (fun x : Pr => x.f1) l p
theorem lookPr_cons (x : Pr) (l : List Pr) (p : Int) : lookPr (x :: l) p = if x.f0 = p then x.f1 else lookPr l p := look_cons _ _ _
theorem zipL : ∀ (ps v : List Int), ps.length = v.length → (List.zipWith (fun p x => (⟨p, x⟩ : Pr)) ps v).map (·.f0) = ps ∧ (List.zipWith (fun p x => (⟨p, x⟩ : Pr)) ps v).map (·.f1) = v
  | [], [], _ => ⟨rfl, rfl⟩
  | p :: ps, x :: v, h => by have := zipL ps v (by simpa using h); exact ⟨by simp only [List.zipWith_cons_cons, List.map_cons, this.1], by simp only [List.zipWith_cons_cons, List.map_cons, this.2]⟩
  | [], _ :: _, h => by simp at h
  | _ :: _, [], h => by simp at h
end Go.Proofs.Ytefiabakfpfbaaa.P
namespace Go.Proofs.Ytefiabakfpfbaaa.P
open Go.RowKit Go.Shelf Go.Proofs.YtefiabakfpfbaaaW.PrintWords Go.Proofs.YtefiabakfpfbaaaW.PrintLast Go.Proofs.YtefiabakfpfbaaaW.PrintMore
def sameNums (a b : Hi) : Prop := a.f0 = b.f0 ∧ a.f1 = b.f1 ∧ a.f2 = b.f2 ∧ a.f3 = b.f3 ∧ a.f4 = b.f4
instance (a b : Hi) : Decidable (sameNums a b) := by unfold sameNums; exact inferInstance
end Go.Proofs.Ytefiabakfpfbaaa.P
namespace Go.Proofs.Ytefiabakfpfbaaa.P
open Go.RowKit Go.Shelf Go.Proofs.YtefiabakfpfbaaaW.PrintWords Go.Proofs.YtefiabakfpfbaaaW.PrintLast Go.Proofs.YtefiabakfpfbaaaW.PrintMore
theorem open_f (h : Hi) (hw : wfH h) (w : World) (v : Value) (hv : HI w v h) : Calls Try.prog 87 #[v] w fun e w' =>
    ∃ v0 v1 : Value, e = .returned (.tuple #[v0, v1, .int .i64 (openR h).2.2]) ∧ FI kPr w.heap.size w' v0 (openR h).1 ∧ FI kPr w.heap.size w' v1 (openR h).2.1 ∧ Below w.heap.size w w' := by
  obtain ⟨A5, c5, A6, c6, A7, c7, A8, c8, rfl, ⟨_, _, e5, h51, h52⟩, ⟨_, _, e6, h61, h62⟩, ⟨_, _, e7, h71, h72⟩, ⟨_, _, e8, h81, h82⟩⟩ := hv.open_
  cases e5; cases e6; cases e7; cases e8
  refine (hist_open.calls h.f0 h.f1 h.f2 h.f3 h.f4 A5 c5 h.f5 A6 c6 h.f6 A7 c7 h.f7 A8 c8 h.f8 (openR h).1 (openR h).2.1 (openR h).2.2 w h52 h51 h62 h61 h72 h71 h82 h81 (if_pos hw)).mono ?_
  rintro e w1 ⟨v0, v1, rfl, h0, h1, hb⟩
  exact ⟨v0, v1, rfl, .of_R h0 (Nat.le_refl _), .of_R h1 (Nat.le_refl _), hb⟩
end Go.Proofs.Ytefiabakfpfbaaa.P
namespace Go.Proofs.Ytefiabakfpfbaaa.P
open Go.RowKit Go.Shelf Go.Proofs.YtefiabakfpfbaaaW.PrintWords Go.Proofs.YtefiabakfpfbaaaW.PrintLast Go.Proofs.YtefiabakfpfbaaaW.PrintMore
def Blk (w : World) (g : Nat) (cs : Array Value) (t : TypeId) : Prop := w.heap[g]? = some (.cells cs t (0, 0))
theorem Blk.below {w w' : World} {g : Nat} {cs : Array Value} {t : TypeId} (h : Blk w g cs t) (hb : Below w.heap.size w w') : Blk w' g cs t := blk_below h hb
theorem Blk.cell {w : World} {g : Nat} {cs : Array Value} {t : TypeId} (h : Blk w g cs t) (i : Nat) : w.cell? ⟨g, i, none⟩ = cs[i]? := blk_cell h i
theorem Blk.new (w : World) (cs : Array Value) (t : TypeId) : Blk (w.alloc (.cells cs t)) w.heap.size cs t := blk_new w _
theorem Blk.alloc {w : World} {g : Nat} {cs : Array Value} {t : TypeId} (h : Blk w g cs t) (o : Obj) : Blk (w.alloc o) g cs t := blk_alloc h o
theorem Blk.at1 {w : World} (o : Obj) (cs : Array Value) (t : TypeId) : Blk ((w.alloc o).alloc (.cells cs t)) (w.heap.size + 1) cs t := by have := Blk.new (w.alloc o) cs t; simpa using this
abbrev kRsp := k135
def HR (w : World) (v : Value) (h : Hi) : Prop :=
  ∃ v5 v6 v7 v8, v = .agg #[.int .i64 h.f0, .int .u64 h.f1, .int .u64 h.f2, .int .u64 h.f3, .int .u64 h.f4, v5, v6, v7, v8] ∧ SI kRsp w v5 (h.f5.map toR) ∧ SI kRsp w v6 (h.f6.map toR) ∧ SI (Kd.int .i64) w v7 h.f7 ∧ SI (Kd.int .i64) w v8 h.f8
theorem HR.below {w w' : World} {v : Value} {h : Hi} (x : HR w v h) (hb : Below w.heap.size w w') : HR w' v h := by
  obtain ⟨v5, v6, v7, v8, e, h5, h6, h7, h8⟩ := x
  exact ⟨v5, v6, v7, v8, e, h5.below hb, h6.below hb, h7.below hb, h8.below hb⟩
theorem HR.open_ {w : World} {v : Value} {h : Hi} (x : HR w v h) : ∃ A5 c5 A6 c6 A7 c7 A8 c8, v = .agg #[.int .i64 h.f0, .int .u64 h.f1, .int .u64 h.f2, .int .u64 h.f3, .int .u64 h.f4, .slice A5 h.f5.length c5, .slice A6 h.f6.length c6, .slice A7 h.f7.length c7, .slice A8 h.f8.length c8] ∧
    SI kRsp w (.slice A5 h.f5.length c5) (h.f5.map toR) ∧ SI kRsp w (.slice A6 h.f6.length c6) (h.f6.map toR) ∧ SI (Kd.int .i64) w (.slice A7 h.f7.length c7) h.f7 ∧ SI (Kd.int .i64) w (.slice A8 h.f8.length c8) h.f8 := by
  obtain ⟨v5, v6, v7, v8, rfl, h5, h6, h7, h8⟩ := x
  obtain ⟨A5, c5, rfl, h51, h52⟩ := h5
  obtain ⟨A6, c6, rfl, h61, h62⟩ := h6
  obtain ⟨A7, c7, rfl, h71, h72⟩ := h7
  obtain ⟨A8, c8, rfl, h81, h82⟩ := h8
  rw [List.length_map]
  rw [List.length_map]
  refine ⟨A5, c5, A6, c6, A7, c7, A8, c8, rfl, ⟨A5, c5, by rw [List.length_map], h51, h52⟩, ⟨A6, c6, by rw [List.length_map], h61, h62⟩, .of h72 h71, .of h82 h81⟩
end Go.Proofs.Ytefiabakfpfbaaa.P
namespace Go.Proofs.Ytefiabakfpfbaaa.P
open Go.RowKit Go.Shelf Go.Proofs.YtefiabakfpfbaaaW.PrintWords Go.Proofs.YtefiabakfpfbaaaW.PrintLast Go.Proofs.YtefiabakfpfbaaaW.PrintMore
theorem SI.V {w : World} {e : Nat} {A : Option Addr} {c : Nat} {l : List Int} (hc : l.length ≤ c) (hr : (Kd.int .i64).C w A l.length l) : Kd.V (Kd.int .i64) e w w.heap.size (fun k_ => (fun k => k < w.heap.size) k_) (.slice A l.length c) l := ⟨_, _, rfl, hc, Kd.C_F (Kd.heap_int .i64) hr⟩
def headE (h : Hi) : Int := if h.f0 < -4 ∨ h.f0 > 8 then 21 else if ¬ h.f1 < 9218868437227405312 then 11 else 0
theorem checkR_eq (h : Hi) : checkR h = if headE h ≠ 0 then headE h else if (sideRes h.f5 h.f7).2 ≠ 0 then (sideRes h.f5 h.f7).2 else if (sideRes h.f6 h.f8).2 ≠ 0 then (sideRes h.f6 h.f8).2 else if fits h.f2 h.f3 h.f4 (sideRes h.f5 h.f7).1 (sideRes h.f6 h.f8).1 = true then 0 else 22 := by
  unfold checkR openR openRes headE
  by_cases c1 : h.f0 < -4 ∨ h.f0 > 8
  · rw [if_pos c1, if_pos c1, if_pos (by omega)]
  rw [if_neg c1, if_neg c1]
  by_cases c2 : ¬ h.f1 < 9218868437227405312
  · rw [if_pos c2, if_pos c2, if_pos (by omega)]
  rw [if_neg c2, if_neg c2, if_neg (c := (0 : Int) ≠ 0) (by omega)]
  by_cases c3 : (sideRes h.f5 h.f7).2 ≠ 0
  · rw [if_pos c3, if_pos c3]
  rw [if_neg c3, if_neg c3]
  by_cases c4 : (sideRes h.f6 h.f8).2 ≠ 0
  · rw [if_pos c4, if_pos c4]
  rw [if_neg c4, if_neg c4]
  by_cases c5 : fits h.f2 h.f3 h.f4 (sideRes h.f5 h.f7).1 (sideRes h.f6 h.f8).1 = true
  · rw [if_pos c5, if_pos c5]
  · rw [if_neg c5, if_neg c5]
theorem openR_right {h : Hi} (hc : checkR h = 0) : openR h = ((sideRes h.f5 h.f7).1, (sideRes h.f6 h.f8).1, 0) := by
  unfold checkR openR openRes at *
  split at hc
  · cases hc
  split at hc
  · cases hc
  split at hc
  · rename_i h3; exact absurd hc h3
  split at hc
  · rename_i h3; exact absurd hc h3
  split at hc
  · rename_i h1 h2 h3 h4 h5; rw [if_neg h1, if_neg h2, if_neg h3, if_neg h4, if_pos h5]
  · cases hc
theorem openR_wrong {h : Hi} (hc : checkR h ≠ 0) : (openR h).1 = [] ∧ (openR h).2.1 = [] := by
  unfold checkR openR openRes at *
  repeat' split
  all_goals first | exact ⟨rfl, rfl⟩ | skip
  rename_i h1 h2 h3 h4 h5
  rw [if_neg h1, if_neg h2, if_neg h3, if_neg h4, if_pos h5] at hc
  exact absurd rfl hc
end Go.Proofs.Ytefiabakfpfbaaa.P
namespace Go.Proofs.Ytefiabakfpfbaaa.P
open Go.RowKit Go.Proofs.YtefiabakfpfbaaaW.PrintWords Go.Proofs.YtefiabakfpfbaaaW.PrintLast Go.Proofs.YtefiabakfpfbaaaW.PrintMore
theorem side_bounds {l : List Sp} {d : List Int} (h0 : (sideRes l d).2 = 0) : (∀ p ∈ (sideRes l d).1, -1048576 ≤ p.f0 ∧ p.f0 ≤ 1048576) ∧ (sideRes l d).1.length = d.length ∧ (sideRes l d).1.map (·.f0) = plN 0 l ∧ spCheck l = 0 := by
  unfold sideRes at h0 ⊢
  by_cases c1 : spCheck l = 0
  rotate_left
  · rw [if_neg c1] at h0; exact absurd h0 c1
  rw [if_pos c1] at h0 ⊢
  by_cases c2 : cntN l = d.length
  rotate_left
  · rw [if_neg c2] at h0; cases h0
  rw [if_pos c2] at h0 ⊢
  cases hs : sumsFrom 0 d with
  | none => rw [hs] at h0; cases h0
  | some c =>
    rw [hs] at h0
    simp only at h0 ⊢
    by_cases c3 : c.any (fun x => decide (x < 0)) = true
    · rw [if_pos c3] at h0; cases h0
    rw [if_neg c3]
    have hr := rises_of_right c1
    have hpl := plN_length l 0 (fun s hs => (spRight_pos l _ _ _ (spCheck_zero c1).2 s hs).1)
    have hc := sumsFrom_length d 0 c hs
    have hz := zipL (plN 0 l) c (by omega)
    refine ⟨fun y hy => ?_, by simp; omega, hz.1, c1⟩
    have : y.f0 ∈ plN 0 l := by
      obtain ⟨i, hi, rfl⟩ := List.mem_iff_getElem.1 hy
      simp only [List.getElem_zipWith]; exact List.getElem_mem _
    exact rises_i64 hr _ this
theorem checkR_zero {h : Hi} (hc : checkR h = 0) : headE h = 0 ∧ (sideRes h.f5 h.f7).2 = 0 ∧ (sideRes h.f6 h.f8).2 = 0 ∧ fits h.f2 h.f3 h.f4 (sideRes h.f5 h.f7).1 (sideRes h.f6 h.f8).1 = true := by
  rw [checkR_eq] at hc
  by_cases c1 : headE h = 0
  rotate_left
  · rw [if_pos c1] at hc; exact absurd hc c1
  rw [if_neg (by simp [c1])] at hc
  by_cases c2 : (sideRes h.f5 h.f7).2 = 0
  rotate_left
  · rw [if_pos c2] at hc; exact absurd hc c2
  rw [if_neg (by simp [c2])] at hc
  by_cases c3 : (sideRes h.f6 h.f8).2 = 0
  rotate_left
  · rw [if_pos c3] at hc; exact absurd hc c3
  rw [if_neg (by simp [c3])] at hc
  by_cases c4 : fits h.f2 h.f3 h.f4 (sideRes h.f5 h.f7).1 (sideRes h.f6 h.f8).1 = true
  · exact ⟨c1, c2, c3, c4⟩
  · rw [if_neg c4] at hc; cases hc
end Go.Proofs.Ytefiabakfpfbaaa.P
namespace Go.Proofs.Ytefiabakfpfbaaa.P
open Go.RowKit Go.Shelf Go.Proofs.YtefiabakfpfbaaaW.PrintWords Go.Proofs.YtefiabakfpfbaaaW.PrintLast Go.Proofs.YtefiabakfpfbaaaW.PrintMore
abbrev Fh := S53
def GI (w : World) (v : Value) (h : Fh) : Prop :=
  ∃ v5 v6 v7 v8, v = .agg #[.int .i64 h.f0, .int .u64 h.f1, .int .u64 h.f2, .int .u64 h.f3, .int .u64 h.f4, v5, v6, v7, v8] ∧ SI kSp w v5 h.f5 ∧ SI kSp w v6 h.f6 ∧ SI (Kd.int .u64) w v7 h.f7 ∧ SI (Kd.int .u64) w v8 h.f8
theorem GI.below {w w' : World} {v : Value} {h : Fh} (x : GI w v h) (hb : Below w.heap.size w w') : GI w' v h := by
  obtain ⟨v5, v6, v7, v8, e, h5, h6, h7, h8⟩ := x
  exact ⟨v5, v6, v7, v8, e, h5.below hb, h6.below hb, h7.below hb, h8.below hb⟩
theorem GI.open_ {w : World} {v : Value} {h : Fh} (x : GI w v h) : ∃ A5 c5 A6 c6 A7 c7 A8 c8, v = .agg #[.int .i64 h.f0, .int .u64 h.f1, .int .u64 h.f2, .int .u64 h.f3, .int .u64 h.f4, .slice A5 h.f5.length c5, .slice A6 h.f6.length c6, .slice A7 h.f7.length c7, .slice A8 h.f8.length c8] ∧
    SI kSp w (.slice A5 h.f5.length c5) h.f5 ∧ SI kSp w (.slice A6 h.f6.length c6) h.f6 ∧ SI (Kd.int .u64) w (.slice A7 h.f7.length c7) h.f7 ∧ SI (Kd.int .u64) w (.slice A8 h.f8.length c8) h.f8 := by
  obtain ⟨v5, v6, v7, v8, rfl, h5, h6, h7, h8⟩ := x
  obtain ⟨A5, c5, rfl, h51, h52⟩ := h5
  obtain ⟨A6, c6, rfl, h61, h62⟩ := h6
  obtain ⟨A7, c7, rfl, h71, h72⟩ := h7
  obtain ⟨A8, c8, rfl, h81, h82⟩ := h8
  exact ⟨A5, c5, A6, c6, A7, c7, A8, c8, rfl, .of h52 h51, .of h62 h61, .of h72 h71, .of h82 h81⟩
theorem GI.mk {w : World} {h : Fh} {v5 v6 v7 v8 : Value} (h5 : SI kSp w v5 h.f5) (h6 : SI kSp w v6 h.f6) (h7 : SI (Kd.int .u64) w v7 h.f7) (h8 : SI (Kd.int .u64) w v8 h.f8) :
    GI w (.agg #[.int .i64 h.f0, .int .u64 h.f1, .int .u64 h.f2, .int .u64 h.f3, .int .u64 h.f4, v5, v6, v7, v8]) h := ⟨v5, v6, v7, v8, rfl, h5, h6, h7, h8⟩
def emptyF : Fh := ⟨0, 0, 0, 0, 0, [], [], [], []⟩
def GF (base : Nat) (w : World) (v : Value) (h : Fh) : Prop :=
  ∃ v5 v6 v7 v8, v = .agg #[.int .i64 h.f0, .int .u64 h.f1, .int .u64 h.f2, .int .u64 h.f3, .int .u64 h.f4, v5, v6, v7, v8] ∧ FI kSp base w v5 h.f5 ∧ FI kSp base w v6 h.f6 ∧ FI (Kd.int .u64) base w v7 h.f7 ∧ FI (Kd.int .u64) base w v8 h.f8
theorem GF.now {base : Nat} {w : World} {v : Value} {h : Fh} (x : GF base w v h) : GI w v h := by
  obtain ⟨v5, v6, v7, v8, e, h5, h6, h7, h8⟩ := x
  exact ⟨v5, v6, v7, v8, e, h5.now, h6.now, h7.now, h8.now⟩
theorem GF.step {base : Nat} {w w' : World} {v : Value} {h : Fh} (x : GF base w v h) (k : KA base w w') : GF base w' v h := by
  obtain ⟨v5, v6, v7, v8, e, h5, h6, h7, h8⟩ := x
  exact ⟨v5, v6, v7, v8, e, h5.step k, h6.step k, h7.step k, h8.step k⟩
theorem GF.lower {base b : Nat} {w : World} {v : Value} {h : Fh} (x : GF b w v h) (hb : base ≤ b) : GF base w v h := by
  obtain ⟨v5, v6, v7, v8, e, h5, h6, h7, h8⟩ := x
  exact ⟨v5, v6, v7, v8, e, h5.lower hb, h6.lower hb, h7.lower hb, h8.lower hb⟩
theorem GF.mk {base : Nat} {w : World} {h : Fh} {v5 v6 v7 v8 : Value} (h5 : FI kSp base w v5 h.f5) (h6 : FI kSp base w v6 h.f6) (h7 : FI (Kd.int .u64) base w v7 h.f7) (h8 : FI (Kd.int .u64) base w v8 h.f8) :
    GF base w (.agg #[.int .i64 h.f0, .int .u64 h.f1, .int .u64 h.f2, .int .u64 h.f3, .int .u64 h.f4, v5, v6, v7, v8]) h := ⟨v5, v6, v7, v8, rfl, h5, h6, h7, h8⟩
theorem GF.open_ {base : Nat} {w : World} {v : Value} {h : Fh} (x : GF base w v h) : ∃ A5 c5 A6 c6 A7 c7 A8 c8, v = .agg #[.int .i64 h.f0, .int .u64 h.f1, .int .u64 h.f2, .int .u64 h.f3, .int .u64 h.f4, .slice A5 h.f5.length c5, .slice A6 h.f6.length c6, .slice A7 h.f7.length c7, .slice A8 h.f8.length c8] := by
  obtain ⟨A5, c5, A6, c6, A7, c7, A8, c8, e, -⟩ := x.now.open_
  exact ⟨A5, c5, A6, c6, A7, c7, A8, c8, e⟩
def wfF (h : Fh) : Prop := i64 h.f0 ∧ u64 h.f1 ∧ u64 h.f2 ∧ u64 h.f3 ∧ u64 h.f4 ∧ wfSps h.f5 ∧ wfSps h.f6 ∧ u64s h.f7 ∧ u64s h.f8 ∧ h.f7.length < 4398046511104 ∧ h.f8.length < 4398046511104
def openF (h : Fh) : List Pu × List Pu × Int :=
  if h.f0 < -4 ∨ h.f0 > 8 then ([], [], 21) else if rightF h.f1 = false then ([], [], 11) else if (!rightF h.f2 || !rightF h.f3) = true then ([], [], 22)
  else if (sideF h.f5 h.f7).2 ≠ 0 then ([], [], (sideF h.f5 h.f7).2) else if (sideF h.f6 h.f8).2 ≠ 0 then ([], [], (sideF h.f6 h.f8).2)
  else ((sideF h.f5 h.f7).1, (sideF h.f6 h.f8).1, 0)
def checkF (h : Fh) : Int := (openF h).2.2
set_option maxHeartbeats 16000000 in
set_option maxRecDepth 100000 in
theorem fopen_f (h : Fh) (hw : wfF h) (w : World) (v : Value) (hv : GI w v h) : Calls Try.prog 105 #[v] w fun e w' =>
    ∃ v0 v1 : Value, e = .returned (.tuple #[v0, v1, .int .i64 (openF h).2.2]) ∧ FI kPu w.heap.size w' v0 (openF h).1 ∧ FI kPu w.heap.size w' v1 (openF h).2.1 ∧ Below w.heap.size w w' := by
  have hud := Try.underlying53
  have th := thresh_c h.f1
  have wz := wrong_c h.f2
  have wc := wrong_c h.f3
  have s5 := fside_c h.f5 h.f7 hw.2.2.2.2.2.1 hw.2.2.2.2.2.2.2.2.2.1
  have s6 := fside_c h.f6 h.f8 hw.2.2.2.2.2.2.1 hw.2.2.2.2.2.2.2.2.2.2
  obtain ⟨A5, c5, A6, c6, A7, c7, A8, c8, e, h5, h6, h7, h8⟩ := hv.open_
  subst e
  have B := Aside0.mk (below_alloc (Below.refl w.heap.size w) (.cells #[.int .i64 h.f0, .int .u64 h.f1, .int .u64 h.f2, .int .u64 h.f3, .int .u64 h.f4, .slice A5 h.f5.length c5, .slice A6 h.f6.length c6, .slice A7 h.f7.length c7, .slice A8 h.f8.length c8] 53))
  have X := Aside0.mk (Blk.new w #[.int .i64 h.f0, .int .u64 h.f1, .int .u64 h.f2, .int .u64 h.f3, .int .u64 h.f4, .slice A5 h.f5.length c5, .slice A6 h.f6.length c6, .slice A7 h.f7.length c7, .slice A8 h.f8.length c8] 53)
  have hx := fun i => X.out.cell i
  have H5 := Aside0.mk (h5.below B.out)
  have H6 := Aside0.mk (h6.below B.out)
  have H7 := Aside0.mk (h7.below B.out)
  have H8 := Aside0.mk (h8.below B.out)
  clear hv h5 h6 h7 h8
  unfold openF
  generalize rightF h.f1 = r1 at *
  generalize rightF h.f2 = r2 at *
  generalize rightF h.f3 = r3 at *
  generalize sideF h.f5 h.f7 = q5 at *
  generalize sideF h.f6 h.f8 = q6 at *
  obtain ⟨p, e5⟩ := q5
  obtain ⟨n, e6⟩ := q6
  simp only at s5 s6 ⊢
  have TH := Aside0.mk th
  have WZ := Aside0.mk wz
  have WC := Aside0.mk wc
  have S5 := Aside0.mk s5
  have S6 := Aside0.mk s6
  clear th wz wc s5 s6 hw
  by_cases k1 : h.f0 < -4
  · rw [if_pos (Or.inl k1)]
    have k1b : decide (h.f0 < -4) = true := decide_eq_true k1
    clear k1
    go_enter Try.func105, Try.ntmps105
    go_wp2
    go_ret3
    exact ⟨_, _, rfl, fun w _ => SI.nil _ w, fun w _ => SI.nil _ w, B.out⟩
  by_cases k2 : h.f0 > 8
  · rw [if_pos (Or.inr k2)]
    have k1b : decide (h.f0 < -4) = false := decide_eq_false k1
    have k2b : decide (8 < h.f0) = true := decide_eq_true k2
    clear k1 k2
    go_enter Try.func105, Try.ntmps105
    go_wp2
    go_ret3
    exact ⟨_, _, rfl, fun w _ => SI.nil _ w, fun w _ => SI.nil _ w, B.out⟩
  rw [if_neg (by omega)]
  have k1b : decide (h.f0 < -4) = false := decide_eq_false k1
  have k2b : decide (8 < h.f0) = false := decide_eq_false k2
  clear k1 k2
  cases r1 with
  | false =>
    rw [if_pos rfl]
    go_enter Try.func105, Try.ntmps105
    go_wp2_with (first | (go_at_call 84; (with_reducible refine (TH.out _).mono ?_); rintro e W1 ⟨rfl, hb⟩; replace B := Aside0.mk (below_then B.out B.out.size hb); replace H5 := Aside0.mk (H5.out.below hb); replace H6 := Aside0.mk (H6.out.below hb); replace H7 := Aside0.mk (H7.out.below hb); replace H8 := Aside0.mk (H8.out.below hb); replace X := Aside0.mk (X.out.below hb); replace hx := fun i => X.out.cell i; clear  hb))
    go_ret3
    exact ⟨_, _, rfl, fun w _ => SI.nil _ w, fun w _ => SI.nil _ w, B.out⟩
  | true =>
    rw [if_neg (by simp)]
    cases r2 with
    | false =>
      rw [if_pos (by simp)]
      go_enter Try.func105, Try.ntmps105
      go_wp2_with (first | (go_at_call 84; (with_reducible refine (TH.out _).mono ?_); rintro e W1 ⟨rfl, hb⟩; replace B := Aside0.mk (below_then B.out B.out.size hb); replace H5 := Aside0.mk (H5.out.below hb); replace H6 := Aside0.mk (H6.out.below hb); replace H7 := Aside0.mk (H7.out.below hb); replace H8 := Aside0.mk (H8.out.below hb); replace X := Aside0.mk (X.out.below hb); replace hx := fun i => X.out.cell i; clear  hb) | (go_at_call 128; (with_reducible refine (WZ.out _).mono ?_); rintro e W2 ⟨rfl, hb⟩; replace B := Aside0.mk (below_then B.out B.out.size hb); replace H5 := Aside0.mk (H5.out.below hb); replace H6 := Aside0.mk (H6.out.below hb); replace H7 := Aside0.mk (H7.out.below hb); replace H8 := Aside0.mk (H8.out.below hb); replace X := Aside0.mk (X.out.below hb); replace hx := fun i => X.out.cell i; clear  hb))
      go_ret3
      exact ⟨_, _, rfl, fun w _ => SI.nil _ w, fun w _ => SI.nil _ w, B.out⟩
    | true =>
      cases r3 with
      | false =>
        rw [if_pos (by simp)]
        go_enter Try.func105, Try.ntmps105
        go_wp2_with (first | (go_at_call 84; (with_reducible refine (TH.out _).mono ?_); rintro e W1 ⟨rfl, hb⟩; replace B := Aside0.mk (below_then B.out B.out.size hb); replace H5 := Aside0.mk (H5.out.below hb); replace H6 := Aside0.mk (H6.out.below hb); replace H7 := Aside0.mk (H7.out.below hb); replace H8 := Aside0.mk (H8.out.below hb); replace X := Aside0.mk (X.out.below hb); replace hx := fun i => X.out.cell i; clear  hb) | (go_at_call 128; (with_reducible refine (WZ.out _).mono ?_); rintro e W2 ⟨rfl, hb⟩; replace B := Aside0.mk (below_then B.out B.out.size hb); replace H5 := Aside0.mk (H5.out.below hb); replace H6 := Aside0.mk (H6.out.below hb); replace H7 := Aside0.mk (H7.out.below hb); replace H8 := Aside0.mk (H8.out.below hb); replace X := Aside0.mk (X.out.below hb); replace hx := fun i => X.out.cell i; clear  hb) | (go_at_call 128; (with_reducible refine (WC.out _).mono ?_); rintro e W3 ⟨rfl, hb⟩; replace B := Aside0.mk (below_then B.out B.out.size hb); replace H5 := Aside0.mk (H5.out.below hb); replace H6 := Aside0.mk (H6.out.below hb); replace H7 := Aside0.mk (H7.out.below hb); replace H8 := Aside0.mk (H8.out.below hb); replace X := Aside0.mk (X.out.below hb); replace hx := fun i => X.out.cell i; clear  hb))
        go_ret3
        exact ⟨_, _, rfl, fun w _ => SI.nil _ w, fun w _ => SI.nil _ w, B.out⟩
      | true =>
        rw [if_neg (by simp)]
        by_cases d5 : e5 = 0
        rotate_left
        · rw [if_pos d5]
          have d5a : (e5 == 0) = false := beq_eq_false_iff_ne.2 d5
          have d5b : (e5 != 0) = true := bne_iff_ne.2 d5
          clear d5
          go_enter Try.func105, Try.ntmps105
          go_wp2_with (first | (go_at_call 84; (with_reducible refine (TH.out _).mono ?_); rintro e W1 ⟨rfl, hb⟩; replace B := Aside0.mk (below_then B.out B.out.size hb); replace H5 := Aside0.mk (H5.out.below hb); replace H6 := Aside0.mk (H6.out.below hb); replace H7 := Aside0.mk (H7.out.below hb); replace H8 := Aside0.mk (H8.out.below hb); replace X := Aside0.mk (X.out.below hb); replace hx := fun i => X.out.cell i; clear  hb) | (go_at_call 128; (with_reducible refine (WZ.out _).mono ?_); rintro e W2 ⟨rfl, hb⟩; replace B := Aside0.mk (below_then B.out B.out.size hb); replace H5 := Aside0.mk (H5.out.below hb); replace H6 := Aside0.mk (H6.out.below hb); replace H7 := Aside0.mk (H7.out.below hb); replace H8 := Aside0.mk (H8.out.below hb); replace X := Aside0.mk (X.out.below hb); replace hx := fun i => X.out.cell i; clear  hb) | (go_at_call 128; (with_reducible refine (WC.out _).mono ?_); rintro e W3 ⟨rfl, hb⟩; replace B := Aside0.mk (below_then B.out B.out.size hb); replace H5 := Aside0.mk (H5.out.below hb); replace H6 := Aside0.mk (H6.out.below hb); replace H7 := Aside0.mk (H7.out.below hb); replace H8 := Aside0.mk (H8.out.below hb); replace X := Aside0.mk (X.out.below hb); replace hx := fun i => X.out.cell i; clear  hb) | (go_at_call 129; (with_reducible refine (S5.out _ _ _ H5.out H7.out).mono ?_); rintro e W4 ⟨v5, rfl, hp, hb⟩; have hp := FI.lower hp B.out.size; replace B := Aside0.mk (below_then B.out B.out.size hb); replace H5 := Aside0.mk (H5.out.below hb); replace H6 := Aside0.mk (H6.out.below hb); replace H7 := Aside0.mk (H7.out.below hb); replace H8 := Aside0.mk (H8.out.below hb); replace X := Aside0.mk (X.out.below hb); replace hx := fun i => X.out.cell i; have P5 := Aside0.mk hp; have Q5 := Aside0.mk (show W4.heap.size = W4.heap.size from rfl); have hp' := P5.out; obtain ⟨pA, pc, ep⟩ := hp'.slice; subst ep; clear hp hb))
          go_ret3
          exact ⟨_, _, rfl, fun w _ => SI.nil _ w, fun w _ => SI.nil _ w, B.out⟩
        subst d5
        rw [if_neg (by simp)]
        by_cases d6 : e6 = 0
        rotate_left
        · rw [if_pos d6]
          have d6a : (e6 == 0) = false := beq_eq_false_iff_ne.2 d6
          have d6b : (e6 != 0) = true := bne_iff_ne.2 d6
          clear d6
          go_enter Try.func105, Try.ntmps105
          go_wp2_with (first | (go_at_call 84; (with_reducible refine (TH.out _).mono ?_); rintro e W1 ⟨rfl, hb⟩; replace B := Aside0.mk (below_then B.out B.out.size hb); replace H5 := Aside0.mk (H5.out.below hb); replace H6 := Aside0.mk (H6.out.below hb); replace H7 := Aside0.mk (H7.out.below hb); replace H8 := Aside0.mk (H8.out.below hb); replace X := Aside0.mk (X.out.below hb); replace hx := fun i => X.out.cell i; clear  hb) | (go_at_call 128; (with_reducible refine (WZ.out _).mono ?_); rintro e W2 ⟨rfl, hb⟩; replace B := Aside0.mk (below_then B.out B.out.size hb); replace H5 := Aside0.mk (H5.out.below hb); replace H6 := Aside0.mk (H6.out.below hb); replace H7 := Aside0.mk (H7.out.below hb); replace H8 := Aside0.mk (H8.out.below hb); replace X := Aside0.mk (X.out.below hb); replace hx := fun i => X.out.cell i; clear  hb) | (go_at_call 128; (with_reducible refine (WC.out _).mono ?_); rintro e W3 ⟨rfl, hb⟩; replace B := Aside0.mk (below_then B.out B.out.size hb); replace H5 := Aside0.mk (H5.out.below hb); replace H6 := Aside0.mk (H6.out.below hb); replace H7 := Aside0.mk (H7.out.below hb); replace H8 := Aside0.mk (H8.out.below hb); replace X := Aside0.mk (X.out.below hb); replace hx := fun i => X.out.cell i; clear  hb) | (go_at_call 129; (with_reducible refine (S5.out _ _ _ H5.out H7.out).mono ?_); rintro e W4 ⟨v5, rfl, hp, hb⟩; have hp := FI.lower hp B.out.size; replace B := Aside0.mk (below_then B.out B.out.size hb); replace H5 := Aside0.mk (H5.out.below hb); replace H6 := Aside0.mk (H6.out.below hb); replace H7 := Aside0.mk (H7.out.below hb); replace H8 := Aside0.mk (H8.out.below hb); replace X := Aside0.mk (X.out.below hb); replace hx := fun i => X.out.cell i; have P5 := Aside0.mk hp; have Q5 := Aside0.mk (show W4.heap.size = W4.heap.size from rfl); have hp' := P5.out; obtain ⟨pA, pc, ep⟩ := hp'.slice; subst ep; clear hp hb) | (go_at_call 129; (with_reducible refine (S6.out _ _ _ H6.out H8.out).mono ?_); rintro e W5 ⟨v6, rfl, hp, hb⟩; have hp := FI.lower hp B.out.size; replace B := Aside0.mk (below_then B.out B.out.size hb); replace H5 := Aside0.mk (H5.out.below hb); replace H6 := Aside0.mk (H6.out.below hb); replace H7 := Aside0.mk (H7.out.below hb); replace H8 := Aside0.mk (H8.out.below hb); replace P5 := Aside0.mk (P5.out.step (KA.below hb)); replace X := Aside0.mk (X.out.below hb); replace hx := fun i => X.out.cell i; have P6 := Aside0.mk hp; have hp' := P6.out; obtain ⟨nA, nc, en⟩ := hp'.slice; subst en; clear hp hb))
          go_ret3
          exact ⟨_, _, rfl, fun w _ => SI.nil _ w, fun w _ => SI.nil _ w, B.out⟩
        subst d6
        rw [if_neg (by simp)]
        go_enter Try.func105, Try.ntmps105
        go_wp2_with (first | (go_at_call 84; (with_reducible refine (TH.out _).mono ?_); rintro e W1 ⟨rfl, hb⟩; replace B := Aside0.mk (below_then B.out B.out.size hb); replace H5 := Aside0.mk (H5.out.below hb); replace H6 := Aside0.mk (H6.out.below hb); replace H7 := Aside0.mk (H7.out.below hb); replace H8 := Aside0.mk (H8.out.below hb); replace X := Aside0.mk (X.out.below hb); replace hx := fun i => X.out.cell i; clear  hb) | (go_at_call 128; (with_reducible refine (WZ.out _).mono ?_); rintro e W2 ⟨rfl, hb⟩; replace B := Aside0.mk (below_then B.out B.out.size hb); replace H5 := Aside0.mk (H5.out.below hb); replace H6 := Aside0.mk (H6.out.below hb); replace H7 := Aside0.mk (H7.out.below hb); replace H8 := Aside0.mk (H8.out.below hb); replace X := Aside0.mk (X.out.below hb); replace hx := fun i => X.out.cell i; clear  hb) | (go_at_call 128; (with_reducible refine (WC.out _).mono ?_); rintro e W3 ⟨rfl, hb⟩; replace B := Aside0.mk (below_then B.out B.out.size hb); replace H5 := Aside0.mk (H5.out.below hb); replace H6 := Aside0.mk (H6.out.below hb); replace H7 := Aside0.mk (H7.out.below hb); replace H8 := Aside0.mk (H8.out.below hb); replace X := Aside0.mk (X.out.below hb); replace hx := fun i => X.out.cell i; clear  hb) | (go_at_call 129; (with_reducible refine (S5.out _ _ _ H5.out H7.out).mono ?_); rintro e W4 ⟨v5, rfl, hp, hb⟩; have hp := FI.lower hp B.out.size; replace B := Aside0.mk (below_then B.out B.out.size hb); replace H5 := Aside0.mk (H5.out.below hb); replace H6 := Aside0.mk (H6.out.below hb); replace H7 := Aside0.mk (H7.out.below hb); replace H8 := Aside0.mk (H8.out.below hb); replace X := Aside0.mk (X.out.below hb); replace hx := fun i => X.out.cell i; have P5 := Aside0.mk hp; have Q5 := Aside0.mk (show W4.heap.size = W4.heap.size from rfl); have hp' := P5.out; obtain ⟨pA, pc, ep⟩ := hp'.slice; subst ep; clear hp hb) | (go_at_call 129; (with_reducible refine (S6.out _ _ _ H6.out H8.out).mono ?_); rintro e W5 ⟨v6, rfl, hp, hb⟩; have hp := FI.lower hp B.out.size; replace B := Aside0.mk (below_then B.out B.out.size hb); replace H5 := Aside0.mk (H5.out.below hb); replace H6 := Aside0.mk (H6.out.below hb); replace H7 := Aside0.mk (H7.out.below hb); replace H8 := Aside0.mk (H8.out.below hb); replace P5 := Aside0.mk (P5.out.step (KA.below hb)); replace X := Aside0.mk (X.out.below hb); replace hx := fun i => X.out.cell i; have P6 := Aside0.mk hp; have hp' := P6.out; obtain ⟨nA, nc, en⟩ := hp'.slice; subst en; clear hp hb))
        go_ret3
        exact ⟨_, _, rfl, P5.out, P6.out, B.out⟩
def pairsF (h : Fh) (side : Int) : List Pu × Int := if side = 0 then ((openF h).1, (openF h).2.2) else if side = 1 then ((openF h).2.1, (openF h).2.2) else ([], 11)
end Go.Proofs.Ytefiabakfpfbaaa.P
namespace Go.Proofs.Ytefiabakfpfbaaa.P
open Go.RowKit Go.Proofs.YtefiabakfpfbaaaW.PrintWords Go.Proofs.YtefiabakfpfbaaaW.PrintLast Go.Proofs.YtefiabakfpfbaaaW.PrintMore
def numsV (s t zero other count c zc z : Int) : Int := if s ≠ t then 1 else if zero ≠ other then 2 else if c < count then 3 else if z < zc then 4 else 0
def headsR (a b : Hi) : Int := numsV a.f0 b.f0 a.f1 b.f1 a.f3 b.f3 a.f2 b.f2
def verdR (hd : Int) (lp ln : Int × Bool) : Int × Int := if hd ≠ 0 then (hd, 0) else if lp.2 = true then (5, lp.1) else if ln.2 = true then (6, ln.1) else (0, 0)
def intsV (a b : Hi) : Int × Int := verdR (headsR a b) (lessI (openR a).1 (openR b).1) (lessI (openR a).2.1 (openR b).2.1)
def intsR (a b : Hi) : (Int × Int) × Int := if checkR a ≠ 0 then ((0, 0), checkR a) else if checkR b ≠ 0 then ((0, 0), checkR b) else (intsV a b, 0)
theorem verdR_zero {hd : Int} {lp ln : Int × Bool} : (verdR hd lp ln).1 = 0 ↔ hd = 0 ∧ lp.2 = false ∧ ln.2 = false := by
  unfold verdR
  by_cases c1 : hd = 0
  · rw [if_neg (by simp [c1])]
    cases c2 : lp.2
    · rw [if_neg (by simp)]
      cases c3 : ln.2
      · rw [if_neg (by simp)]; simp [c1]
      · rw [if_pos rfl]; simp
    · rw [if_pos rfl]; simp
  · rw [if_pos c1]; simp [c1]
theorem numsV_zero {s t zero other count c zc z : Int} : numsV s t zero other count c zc z = 0 ↔ s = t ∧ zero = other ∧ count ≤ c ∧ zc ≤ z := by
  unfold numsV
  constructor
  · intro h
    split at h
    · cases h
    split at h
    · cases h
    split at h
    · cases h
    split at h
    · cases h
    exact ⟨by omega, by omega, by omega, by omega⟩
  · rintro ⟨h1, h2, h3, h4⟩
    rw [if_neg (by omega), if_neg (by omega), if_neg (by omega), if_neg (by omega)]
theorem lessI_none {a b : List Pr} : (lessI a b).2 = false ↔ ∀ p ∈ a, p.f1 ≤ lookPr b p.f0 := by
  unfold lessI
  cases h : a.find? (fun p => decide (look (fun q : Pr => q.f0) (fun q : Pr => q.f1) b p.f0 < p.f1)) with
  | none =>
    rw [List.find?_eq_none] at h
    refine ⟨fun _ p hp => ?_, fun _ => rfl⟩
    have := h p hp
    rw [decide_eq_true_eq] at this
    exact Int.not_lt.1 this
  | some x =>
    have h1 := List.find?_some h
    have h2 := List.mem_of_find?_eq_some h
    rw [decide_eq_true_eq] at h1
    refine ⟨fun hx => by simp at hx, fun hx => absurd h1 (Int.not_lt.2 (hx x h2))⟩
def headsF (a b : Fh) : Int := numsV a.f0 b.f0 a.f1 b.f1 a.f3 b.f3 a.f2 b.f2
def floatsV (a b : Fh) : Int × Int := verdR (headsF a b) (lessF (openF a).1 (openF b).1) (lessF (openF a).2.1 (openF b).2.1)
def floatsR (a b : Fh) : (Int × Int) × Int := if checkF a ≠ 0 then ((0, 0), checkF a) else if checkF b ≠ 0 then ((0, 0), checkF b) else (floatsV a b, 0)
end Go.Proofs.Ytefiabakfpfbaaa.P
namespace Go.Proofs.Ytefiabakfpfbaaa.P
open Go.RowKit Go.Shelf Go.Proofs.YtefiabakfpfbaaaW.PrintWords Go.Proofs.YtefiabakfpfbaaaW.PrintLast Go.Proofs.YtefiabakfpfbaaaW.PrintMore
def wfRowU (l : List Pu) : Prop := wfPus l ∧ l.length < 4398046511104
structure RowOKU (l : List Pu) : Prop where
  wf : wfRowU l
  len : l.length ≤ 4096
  cnt : ∀ p ∈ l, rightF p.f1 = true
  ups : Ups (fun p : Pu => p.f0) l
theorem RowOKU.nil : RowOKU [] := ⟨⟨fun s hs => by simp at hs, by simp⟩, by simp, fun s hs => by simp at hs, Ups.nil⟩
theorem zip_upsU : ∀ (ps v : List Int), ps.Pairwise (· < ·) → Ups (fun p : Pu => p.f0) (List.zipWith (fun p x => (⟨p, x⟩ : Pu)) ps v)
  | [], _, _ => by simp [Ups]
  | p :: ps, [], _ => by simp [Ups]
  | p :: ps, x :: v, h => by
    have h1 := List.pairwise_cons.1 h
    refine List.pairwise_cons.2 ⟨fun y hy => ?_, zip_upsU ps v h1.2⟩
    have : y.f0 ∈ ps := by
      obtain ⟨i, hi, rfl⟩ := List.mem_iff_getElem.1 hy
      simp only [List.getElem_zipWith]; exact List.getElem_mem _
    exact h1.1 _ this
theorem sideF_row {l : List Sp} {c : List Int} (hc : u64s c) : RowOKU (sideF l c).1 := by
  unfold sideF
  by_cases c1 : spCheck l = 0
  rotate_left
  · rw [if_neg c1]; exact RowOKU.nil
  rw [if_pos c1]
  by_cases c2 : cntN l = c.length
  rotate_left
  · rw [if_neg c2]; exact RowOKU.nil
  rw [if_pos c2]
  by_cases c3 : c.any (fun v => !rightF v) = true
  · rw [if_pos c3]; exact RowOKU.nil
  rw [if_neg c3]
  have hr := rises_of_right c1
  have hf : ∀ p ∈ List.zipWith (fun p x => (⟨p, x⟩ : Pu)) (plN 0 l) c, (-1048576 ≤ p.f0 ∧ p.f0 ≤ 1048576) ∧ p.f1 ∈ c := by
    intro y hy
    obtain ⟨i, hi, rfl⟩ := List.mem_iff_getElem.1 hy
    simp only [List.getElem_zipWith]
    exact ⟨rises_i64 hr _ (List.getElem_mem _), List.getElem_mem _⟩
  have hl : (List.zipWith (fun p x => (⟨p, x⟩ : Pu)) (plN 0 l) c).length ≤ 4096 := by have := places_len c1; simp; omega
  simp only
  refine ⟨⟨fun p hp => ?_, by omega⟩, hl, fun p hp => ?_, zip_upsU _ _ (rises_ups _ _ hr).1⟩
  · have h1 := hf p hp; have h2 := h1.1; exact ⟨⟨by omega, by omega⟩, hc _ h1.2⟩
  · have h1 := hf p hp
    cases hq : rightF p.f1 with
    | true => rfl
    | false => exact absurd (List.any_eq_true.2 ⟨_, h1.2, by rw [hq]; rfl⟩) c3
theorem openF_row {h : Fh} (hw : wfF h) : RowOKU (openF h).1 ∧ RowOKU (openF h).2.1 := by
  obtain ⟨-, -, -, -, -, -, -, h7, h8, -⟩ := hw
  have a := sideF_row (l := h.f5) h7
  have b := sideF_row (l := h.f6) h8
  unfold openF
  repeat' split
  all_goals first | exact ⟨a, b⟩ | exact ⟨RowOKU.nil, RowOKU.nil⟩
end Go.Proofs.Ytefiabakfpfbaaa.P
namespace Go.Proofs.Ytefiabakfpfbaaa.P
open Go.RowKit Go.Shelf Go.Proofs.YtefiabakfpfbaaaW.PrintWords Go.Proofs.YtefiabakfpfbaaaW.PrintLast Go.Proofs.YtefiabakfpfbaaaW.PrintMore
def headF (h : Fh) : Int := if h.f0 < -4 ∨ h.f0 > 8 then 21 else if rightF h.f1 = false then 11 else if (!rightF h.f2 || !rightF h.f3) = true then 22 else 0
theorem checkF_eq (h : Fh) : checkF h = if headF h ≠ 0 then headF h else if (sideF h.f5 h.f7).2 ≠ 0 then (sideF h.f5 h.f7).2 else (sideF h.f6 h.f8).2 := by
  unfold checkF openF headF
  by_cases c1 : h.f0 < -4 ∨ h.f0 > 8
  · rw [if_pos c1, if_pos c1, if_pos (by omega)]
  rw [if_neg c1, if_neg c1]
  by_cases c2 : rightF h.f1 = false
  · rw [if_pos c2, if_pos c2, if_pos (by omega)]
  rw [if_neg c2, if_neg c2]
  by_cases c3 : (!rightF h.f2 || !rightF h.f3) = true
  · rw [if_pos c3, if_pos c3, if_pos (by omega)]
  rw [if_neg c3, if_neg c3, if_neg (c := (0 : Int) ≠ 0) (by omega)]
  by_cases c4 : (sideF h.f5 h.f7).2 ≠ 0
  · rw [if_pos c4, if_pos c4]
  rw [if_neg c4, if_neg c4]
  by_cases c5 : (sideF h.f6 h.f8).2 ≠ 0
  · rw [if_pos c5]
  · rw [if_neg c5]; exact (Decidable.not_not.1 c5).symm
theorem openF_right {h : Fh} (hc : checkF h = 0) : openF h = ((sideF h.f5 h.f7).1, (sideF h.f6 h.f8).1, 0) := by
  unfold checkF openF at *
  split at hc
  · cases hc
  split at hc
  · cases hc
  split at hc
  · cases hc
  split at hc
  · rename_i h3; exact absurd hc h3
  split at hc
  · rename_i h3; exact absurd hc h3
  rename_i h1 h2 h3 h4 h5
  rw [if_neg h1, if_neg h2, if_neg h3, if_neg h4, if_neg h5]
theorem checkF_right {h : Fh} (c1 : headF h = 0) (c2 : (sideF h.f5 h.f7).2 = 0) (c3 : (sideF h.f6 h.f8).2 = 0) : checkF h = 0 := by
  rw [checkF_eq, if_neg (by simp [c1]), if_neg (by simp [c2]), c3]
def sameNumsF (a b : Fh) : Prop := a.f0 = b.f0 ∧ a.f1 = b.f1 ∧ a.f2 = b.f2 ∧ a.f3 = b.f3 ∧ a.f4 = b.f4
instance (a b : Fh) : Decidable (sameNumsF a b) := by unfold sameNumsF; exact inferInstance
end Go.Proofs.Ytefiabakfpfbaaa.P
namespace Go.Proofs.Ytefiabakfpfbaaa.P
open Go.RowKit Go.Shelf Go.Proofs.YtefiabakfpfbaaaW.PrintWords Go.Proofs.YtefiabakfpfbaaaW.PrintLast Go.Proofs.YtefiabakfpfbaaaW.PrintMore
theorem nearI_eq {x : Int} (h0 : 0 ≤ x) (h1 : x < 18446744073709551616) : nearI x = (fltR x.toNat : Int) := by
  unfold nearI
  have := nearest_eq (n := x.toNat) (by omega)
  rw [show ((x.toNat : Nat) : Int) = x by omega] at this
  rw [this]
theorem nearI_mono {x y : Int} (h0 : 0 ≤ x) (h : x ≤ y) (h1 : y < 18446744073709551616) : nearI x ≤ nearI y := by
  rw [nearI_eq h0 (by omega), nearI_eq (by omega) h1]
  have := fltR_mono (a := x.toNat) (b := y.toNat) (by omega)
  omega
theorem nearI_lt {x y : Int} (h0 : 0 ≤ x) (hy : 0 ≤ y) (h1 : x < 18446744073709551616) (h2 : y ≤ 9007199254740992) : nearI x < nearI y ↔ x < y := by
  constructor
  · intro h
    rcases Int.lt_or_le x y with c | c
    · exact c
    · have := nearI_mono hy c h1
      omega
  · intro h
    rw [nearI_eq h0 h1, nearI_eq hy (by omega)]
    have := fltR_lt (a := x.toNat) (b := y.toNat) (by omega) (by omega)
    omega
theorem nearI_zero : nearI 0 = 0 := by rw [nearI_eq (by omega) (by omega)]; rfl
theorem nearI_right {x : Int} (h0 : 0 ≤ x) (h1 : x < 18446744073709551616) : 0 ≤ nearI x ∧ rightF (nearI x) = true ∧ u64 (nearI x) := by
  rw [nearI_eq h0 h1]
  have := fltR_right (n := x.toNat) (by omega)
  refine ⟨by omega, ?_, by unfold u64; omega⟩
  unfold rightF
  exact decide_eq_true (by omega)
theorem sums_i64 : ∀ (l : List Int) (a : Int) (o : List Int), sumsFrom a l = some o → ∀ x ∈ o, x ≤ 9223372036854775807
  | [], a, o, h, x, hx => by
    simp only [sumsFrom, Option.some.injEq] at h
    subst h
    simp at hx
  | d :: r, a, o, h, x, hx => by
    simp only [sumsFrom] at h
    split at h
    · rename_i hi
      cases hs : sumsFrom (a + d) r with
      | none => rw [hs] at h; cases h
      | some o' =>
        rw [hs] at h
        simp only [Option.map_some, Option.some.injEq] at h
        subst h
        rcases List.mem_cons.1 hx with rfl | hx
        · unfold i64 at hi; omega
        · exact sums_i64 r _ o' hs x hx
    · cases h
def toF (p : Pr) : Pu := ⟨p.f0, nearI p.f1⟩
def fromF (a : Hi) : Fh := ⟨a.f0, a.f1, nearI a.f2, nearI a.f3, a.f4, a.f5, a.f6, floatsCR a.f7, floatsCR a.f8⟩
theorem side_from {l : List Sp} {d : List Int} (hd : i64s d) (h : (sideRes l d).2 = 0) : sideF l (floatsCR d) = ((sideRes l d).1.map toF, 0) ∧ (floatsCR d).length = d.length ∧ wfFloats d ∧ u64s (floatsCR d) := by
  have hb := side_bounds h
  have hpl := places_len hb.2.2.2
  unfold sideRes at h ⊢
  by_cases c1 : spCheck l = 0
  rotate_left
  · rw [if_neg c1] at h; exact absurd h c1
  rw [if_pos c1] at h ⊢
  by_cases c2 : cntN l = d.length
  rotate_left
  · rw [if_neg c2] at h; cases h
  rw [if_pos c2] at h ⊢
  cases c3 : sumsFrom 0 d with
  | none => rw [c3] at h; cases h
  | some c =>
    rw [c3] at h
    simp only at h ⊢
    by_cases c4 : c.any (fun x => decide (x < 0)) = true
    · rw [if_pos c4] at h; cases h
    rw [if_neg c4] at h ⊢
    have hl := sums_len d 0 c c3
    have hn : ∀ x ∈ c, 0 ≤ x := by
      intro x hx
      rcases Int.lt_or_le x 0 with k | k
      · exact absurd (List.any_eq_true.2 ⟨x, hx, decide_eq_true k⟩) c4
      · exact k
    have hm : ∀ x ∈ c, x ≤ 9223372036854775807 := sums_i64 d 0 c c3
    have hf : floatsCR d = c.map nearI := by unfold floatsCR; rw [c3]; rfl
    have hr : ∀ x ∈ c, rightF (nearI x) = true := fun x hx => (nearI_right (hn x hx) (by have := hm x hx; omega)).2.1
    refine ⟨?_, ?_, ⟨hd, ?_, ?_⟩, ?_⟩
    · unfold sideF
      rw [if_pos c1, if_pos (by rw [hf, List.length_map, hl]; exact c2), if_neg, hf]
      · congr 1
        rw [List.map_zipWith]
        exact (List.zipWith_map_right ..)
      · rw [hf]
        intro e
        obtain ⟨y, hy, h2⟩ := List.any_eq_true.1 e
        obtain ⟨x, hx, rfl⟩ := List.mem_map.1 hy
        rw [hr x hx] at h2
        cases h2
    · rw [hf, List.length_map, hl]
    · have h1 := hb.2.1
      have h2 := congrArg List.length hb.2.2.1
      rw [List.length_map] at h2
      omega
    · rw [c3]
      exact fun x hx => ⟨hn x hx, hm x hx⟩
    · rw [hf]
      intro y hy
      obtain ⟨x, hx, rfl⟩ := List.mem_map.1 hy
      exact (nearI_right (hn x hx) (by have := hm x hx; omega)).2.2
theorem look_map : ∀ (l : List Pr) (q : Int), look (fun p : Pu => p.f0) (fun p : Pu => p.f1) (l.map toF) q = nearI (lookPr l q)
  | [], q => by rw [show lookPr [] q = 0 from rfl, nearI_zero]; rfl
  | x :: l, q => by
    rw [List.map_cons, look_cons, lookPr_cons, look_map l q]
    by_cases c : x.f0 = q
    · rw [if_pos (show (toF x).f0 = q from c), if_pos c]; rfl
    · rw [if_neg (show ¬ (toF x).f0 = q from c), if_neg c]
theorem lessF_none {a b : List Pu} : (lessF a b).2 = false ↔ ∀ p ∈ a, p.f1 ≤ look (fun q : Pu => q.f0) (fun q : Pu => q.f1) b p.f0 := by
  unfold lessF
  cases h : a.find? (fun p => decide (look (fun q : Pu => q.f0) (fun q : Pu => q.f1) b p.f0 < p.f1)) with
  | none =>
    rw [List.find?_eq_none] at h
    refine ⟨fun _ p hp => ?_, fun _ => rfl⟩
    have := h p hp
    rw [decide_eq_true_eq] at this
    exact Int.not_lt.1 this
  | some x =>
    have h1 := List.find?_some h
    have h2 := List.mem_of_find?_eq_some h
    rw [decide_eq_true_eq] at h1
    refine ⟨fun hx => by simp at hx, fun hx => absurd h1 (Int.not_lt.2 (hx x h2))⟩
theorem look_range {b : List Pr} (hb : cnts b) (p : Int) : 0 ≤ lookPr b p ∧ lookPr b p ≤ 9223372036854775807 := by
  rcases look_or (key := fun q : Pr => q.f0) (val := fun q : Pr => q.f1) b p with ⟨x, hx, -, h⟩ | ⟨-, h⟩
  · rw [lookPr, h]; exact (hb x hx).2
  · rw [lookPr, h]; omega
theorem less_from {a b : List Pr} (ha : cnts a) (hb : cnts b) (h : (lessI a b).2 = false) : (lessF (a.map toF) (b.map toF)).2 = false := by
  rw [lessF_none]
  rw [lessI_none] at h
  intro p hp
  obtain ⟨x, hx, rfl⟩ := List.mem_map.1 hp
  rw [look_map]
  have h1 := ha x hx
  have h2 := look_range hb x.f0
  exact nearI_mono h1.2.1 (h x hx) (show lookPr b x.f0 < 18446744073709551616 by omega)
theorem find_congr {α : Type} {P Q : α → Bool} : ∀ (l : List α), (∀ x ∈ l, P x = Q x) → l.find? P = l.find? Q
  | [], _ => rfl
  | x :: l, h => by
    rw [List.find?_cons, List.find?_cons, h x (by simp), find_congr l (fun y hy => h y (List.mem_cons_of_mem _ hy))]
theorem less_same {a b : List Pr} (ha : cnts a) (hb : cnts b) (hm : ∀ p ∈ a, p.f1 ≤ 9007199254740992) : lessF (a.map toF) (b.map toF) = lessI a b := by
  unfold lessF lessI
  rw [List.find?_map, find_congr a (Q := fun p => decide (look (fun q : Pr => q.f0) (fun q : Pr => q.f1) b p.f0 < p.f1)) (fun x hx => by
    simp only [Function.comp_apply]
    rw [look_map]
    have h1 := ha x hx
    have h2 := look_range hb x.f0
    have := nearI_lt (x := lookPr b x.f0) (y := x.f1) h2.1 h1.2.1 (by omega) (hm x hx)
    simp only [toF]
    exact decide_eq_decide.2 this)]
  cases a.find? (fun p => decide (look (fun q : Pr => q.f0) (fun q : Pr => q.f1) b p.f0 < p.f1)) with
  | none => rfl
  | some x => rfl
theorem from_open {a : Hi} (hw : wfH a) (hc : checkR a = 0) : checkF (fromF a) = 0 ∧ openF (fromF a) = ((openR a).1.map toF, (openR a).2.1.map toF, 0) ∧ wfF (fromF a) ∧ wfFloats a.f7 ∧ wfFloats a.f8 := by
  obtain ⟨z1, z2, z3, z4⟩ := checkR_zero hc
  obtain ⟨p1, p2, p3, p4⟩ := side_from hw.2.2.2.2.2.2.2.1 z2
  obtain ⟨n1, n2, n3, n4⟩ := side_from hw.2.2.2.2.2.2.2.2.1 z3
  obtain ⟨w0, w1, w2, w3, w4, w5, w6, w7, w8, w9, w10⟩ := hw
  have r2 := nearI_right w2.1 (by have := w2.2; omega)
  have r3 := nearI_right w3.1 (by have := w3.2; omega)
  have hh : headF (fromF a) = 0 := by
    unfold headE at z1
    unfold headF fromF
    simp only
    split at z1
    · cases z1
    rename_i k1
    rw [if_neg k1]
    split at z1
    · cases z1
    rename_i k2
    rw [if_neg, if_neg]
    · rw [r2.2.1, r3.2.1]; decide
    · unfold rightF
      simp only [Decidable.not_not] at k2
      rw [decide_eq_true k2]; decide
  have hcf : checkF (fromF a) = 0 := checkF_right hh (by show (sideF a.f5 (floatsCR a.f7)).2 = 0; rw [p1]) (by show (sideF a.f6 (floatsCR a.f8)).2 = 0; rw [n1])
  refine ⟨hcf, ?_, ⟨w0, w1, r2.2.2, r3.2.2, w4, w5, w6, p4, n4, by show (floatsCR a.f7).length < _; omega, by show (floatsCR a.f8).length < _; omega⟩, p3, n3⟩
  rw [openR_right hc, openF_right hcf]
  show ((sideF a.f5 (floatsCR a.f7)).1, (sideF a.f6 (floatsCR a.f8)).1, (0 : Int)) = _
  rw [p1, n1]
theorem bucket_le {a : Hi} (hw : wfH a) (hc : checkR a = 0) : a.f2 ≤ a.f3 ∧ (∀ p ∈ (openR a).1, p.f1 ≤ a.f3) ∧ ∀ p ∈ (openR a).2.1, p.f1 ≤ a.f3 := by
  obtain ⟨z1, z2, z3, z4⟩ := checkR_zero hc
  have ho := openR_right hc
  have hr := openR_row hw
  have e5 : (openR a).1 = (sideRes a.f5 a.f7).1 := by rw [ho]
  have e6 : (openR a).2.1 = (sideRes a.f6 a.f8).1 := by rw [ho]
  rw [← e5, ← e6] at z4
  have hp := sumV_nonneg (l := (openR a).1) (fun p hp => (hr.1.cnt p hp).2.1)
  have hn := sumV_nonneg (l := (openR a).2.1) (fun p hp => (hr.2.cnt p hp).2.1)
  have hz := hw.2.2.1.1
  have mem_le : ∀ (l : List Pr), (∀ p ∈ l, 0 ≤ p.f1) → ∀ p ∈ l, p.f1 ≤ sumV l := by
    intro l
    induction l with
    | nil => intro _ p hp; simp at hp
    | cons x t ih =>
      intro h p hp
      have e : sumV (x :: t) = x.f1 + sumV t := by unfold sumV; simp
      have h1 := sumV_nonneg (l := t) (fun q hq => h q (List.mem_cons_of_mem _ hq))
      have h2 := h x (by simp)
      rcases List.mem_cons.1 hp with rfl | hp
      · omega
      · have := ih (fun q hq => h q (List.mem_cons_of_mem _ hq)) p hp
        omega
  have tot : a.f2 + (sumV (openR a).1 + sumV (openR a).2.1) ≤ a.f3 := by
    unfold fits totalRes sumR at z4
    simp only [List.map_cons, List.map_nil, List.sum_cons, List.sum_nil, Int.add_zero] at z4
    split at z4
    · simp only [Bool.true_and, Bool.and_eq_true, decide_eq_true_eq] at z4
      exact z4.1
    · simp at z4
  refine ⟨by omega, fun p h => ?_, fun p h => ?_⟩
  · have := mem_le _ (fun q hq => (hr.1.cnt q hq).2.1) p h; omega
  · have := mem_le _ (fun q hq => (hr.2.cnt q hq).2.1) p h; omega
theorem both_plain {a b : Hi} (ha : wfH a) (hb : wfH b) (ca : checkR a = 0) (cb : checkR b = 0) :
    ((intsV a b).1 = 0 → (floatsV (fromF a) (fromF b)).1 = 0) ∧ (a.f3 ≤ 9007199254740992 → floatsV (fromF a) (fromF b) = intsV a b) := by
  have ra := openR_row ha
  have rb := openR_row hb
  have oa := (from_open ha ca).2.1
  have ob := (from_open hb cb).2.1
  have a2 := ha.2.2.1; have a3 := ha.2.2.2.1; have b2 := hb.2.2.1; have b3 := hb.2.2.2.1
  unfold u64 at a2 a3 b2 b3
  constructor
  · intro h
    unfold intsV at h
    unfold floatsV
    rw [verdR_zero] at h ⊢
    obtain ⟨h1, h2, h3⟩ := h
    unfold headsR at h1
    unfold headsF
    rw [numsV_zero] at h1 ⊢
    rw [oa, ob]
    exact ⟨⟨h1.1, h1.2.1, nearI_mono a3.1 h1.2.2.1 (by omega), nearI_mono a2.1 h1.2.2.2 (by omega)⟩, less_from ra.1.cnt rb.1.cnt h2, less_from ra.2.cnt rb.2.cnt h3⟩
  · intro hm
    obtain ⟨k1, k2, k3⟩ := bucket_le ha ca
    unfold floatsV intsV
    rw [oa, ob]
    simp only
    rw [less_same ra.1.cnt rb.1.cnt (fun p hp => by have := k2 p hp; omega), less_same ra.2.cnt rb.2.cnt (fun p hp => by have := k3 p hp; omega)]
    have hh : headsF (fromF a) (fromF b) = headsR a b := by
      unfold headsF headsR numsV fromF
      simp only
      have e1 := nearI_lt (x := b.f3) (y := a.f3) b3.1 a3.1 (by omega) hm
      have e2 := nearI_lt (x := b.f2) (y := a.f2) b2.1 a2.1 (by omega) (by omega)
      simp only [e1, e2]
    rw [hh]
end Go.Proofs.Ytefiabakfpfbaaa.P
namespace Go.Proofs.Ytefiabakfpfbaaa.P
open Go.RowKit Go.Proofs.YtefiabakfpfbaaaW.PrintWords Go.Proofs.YtefiabakfpfbaaaW.PrintLast Go.Proofs.YtefiabakfpfbaaaW.PrintMore
attribute [local go_sem] max2_int min2_int max_two min_two max_three min_three max_four min_four
def hist_Check.f (a0_0 : Int) (a0_1 : Int) (a0_2 : Int) (a0_3 : Int) (a0_4 : Int) (l0_5 : List (S111)) (l0_6 : List (S111)) (l0_7 : List Int) (l0_8 : List Int) : Option (Int) := (hist_open.f a0_0 a0_1 a0_2 a0_3 a0_4 l0_5 l0_6 l0_7 l0_8).bind fun bt102 => (some bt102.2.2)
set_option maxHeartbeats 8000000 in
set_option maxRecDepth 100000 in
theorem hist_Check.calls (a0_0 : Int) (a0_1 : Int) (a0_2 : Int) (a0_3 : Int) (a0_4 : Int) (A0_5 : Option Addr) (c0_5 : Nat) (l0_5 : List (S111)) (A0_6 : Option Addr) (c0_6 : Nat) (l0_6 : List (S111)) (A0_7 : Option Addr) (c0_7 : Nat) (l0_7 : List Int) (A0_8 : Option Addr) (c0_8 : Nat) (l0_8 : List Int) (r : Int) (w : World) (hr0_5 : Kd.C k111 w A0_5 l0_5.length l0_5) (hc0_5 : l0_5.length ≤ c0_5) (hr0_6 : Kd.C k111 w A0_6 l0_6.length l0_6) (hc0_6 : l0_6.length ≤ c0_6) (hr0_7 : Kd.C (Kd.int .i64) w A0_7 l0_7.length l0_7) (hc0_7 : l0_7.length ≤ c0_7) (hr0_8 : Kd.C (Kd.int .i64) w A0_8 l0_8.length l0_8) (hc0_8 : l0_8.length ≤ c0_8) (h : hist_Check.f a0_0 a0_1 a0_2 a0_3 a0_4 l0_5 l0_6 l0_7 l0_8 = some r) :
  Calls Try.prog 55 #[.agg #[.int .i64 a0_0, .int .u64 a0_1, .int .u64 a0_2, .int .u64 a0_3, .int .u64 a0_4, .slice A0_5 l0_5.length c0_5, .slice A0_6 l0_6.length c0_6, .slice A0_7 l0_7.length c0_7, .slice A0_8 l0_8.length c0_8]] w fun e w' => e = .returned (.int .i64 r) ∧ Below w.heap.size w w' := by
 have hu26 := Try.underlying26
 have HR0_5 := Aside0.mk hr0_5
 have HC0_5 := Aside0.mk hc0_5
 clear hr0_5 hc0_5
 have HR0_6 := Aside0.mk hr0_6
 have HC0_6 := Aside0.mk hc0_6
 clear hr0_6 hc0_6
 have HR0_7 := Aside0.mk hr0_7
 have HC0_7 := Aside0.mk hc0_7
 clear hr0_7 hc0_7
 have HR0_8 := Aside0.mk hr0_8
 have HC0_8 := Aside0.mk hc0_8
 clear hr0_8 hc0_8
 have HB := Aside0.mk (Below.refl w.heap.size w)
 have H : ((hist_open.f a0_0 a0_1 a0_2 a0_3 a0_4 l0_5 l0_6 l0_7 l0_8).bind fun bt102 => (some bt102.2.2)) = some r := h
 clear h
 replace H := Option.bind_eq_some_iff.mp H
 obtain ⟨⟨t102, t105, t108⟩, A20, H⟩ := H
 replace H : (some t108) = some r := H
 have A2 := Aside0.mk A20
 clear A20
 obtain rfl := Option.some.inj H
 go_enter Try.func55, Try.ntmps55
 go_wp2_with (first | ((with_reducible refine gate_dst (N := 1) rfl ?_); refine box_event ?hg (N := 1) ?hd (cs := #[.int .i64 a0_0, .int .u64 a0_1, .int .u64 a0_2, .int .u64 a0_3, .int .u64 a0_4, .slice A0_5 l0_5.length c0_5, .slice A0_6 l0_6.length c0_6, .slice A0_7 l0_7.length c0_7, .slice A0_8 l0_8.length c0_8]) (t := 26) ?hr ?_; (case hd => rfl); (case hg => rfl); (case hr => first | (go_simp; done) | (go_simp; rfl)); intro gb101 hg w3 hbox hb; have n0_ := Aside0.mk (below_step (by repeat (first | (with_reducible first | exact HB.out | apply below_alloc | apply pw_below_drewN | apply below_drew1) | exact HB.out)) hb); have n1_ := Aside0.mk (hbox); have n2_ := Aside0.mk ((by rw [hg]; exact (below_size (by repeat (first | (with_reducible first | exact HB.out | apply below_alloc | apply pw_below_drewN | apply below_drew1) | exact HB.out))) : w.heap.size ≤ gb101)); have n3_ := Aside0.mk ((by rw [hg]; exact (below_size (by repeat (first | (with_reducible first | exact HB.out | apply below_alloc | apply pw_below_drewN | apply below_drew1) | exact HB.out))) : w.heap.size ≤ gb101)); clear HB; have HB := n0_; have BK101 := n1_; have GW101 := n2_; have GE101 := n3_; clear n0_ n1_ n2_ n3_; clear hb hbox hg; have hcz4_0 : w3.cell? ⟨gb101, 0, none⟩ = some (.int .i64 a0_0) := (blk_cell BK101.out 0).trans rfl; have hcz4_1 : w3.cell? ⟨gb101, 1, none⟩ = some (.int .u64 a0_1) := (blk_cell BK101.out 1).trans rfl; have hcz4_2 : w3.cell? ⟨gb101, 2, none⟩ = some (.int .u64 a0_2) := (blk_cell BK101.out 2).trans rfl; have hcz4_3 : w3.cell? ⟨gb101, 3, none⟩ = some (.int .u64 a0_3) := (blk_cell BK101.out 3).trans rfl; have hcz4_4 : w3.cell? ⟨gb101, 4, none⟩ = some (.int .u64 a0_4) := (blk_cell BK101.out 4).trans rfl; have hcz4_5 : w3.cell? ⟨gb101, 5, none⟩ = some (.slice A0_5 l0_5.length c0_5) := (blk_cell BK101.out 5).trans rfl; have hcz4_6 : w3.cell? ⟨gb101, 6, none⟩ = some (.slice A0_6 l0_6.length c0_6) := (blk_cell BK101.out 6).trans rfl; have hcz4_7 : w3.cell? ⟨gb101, 7, none⟩ = some (.slice A0_7 l0_7.length c0_7) := (blk_cell BK101.out 7).trans rfl; have hcz4_8 : w3.cell? ⟨gb101, 8, none⟩ = some (.slice A0_8 l0_8.length c0_8) := (blk_cell BK101.out 8).trans rfl; have hfz4_0 := blk_frozen BK101.out 0; have hfz4_1 := blk_frozen BK101.out 1; have hfz4_2 := blk_frozen BK101.out 2; have hfz4_3 := blk_frozen BK101.out 3; have hfz4_4 := blk_frozen BK101.out 4; have hfz4_5 := blk_frozen BK101.out 5; have hfz4_6 := blk_frozen BK101.out 6; have hfz4_7 := blk_frozen BK101.out 7; have hfz4_8 := blk_frozen BK101.out 8) | ((with_reducible refine gate_callee (f := 87) rfl ?_); refine goesL_ (some 8) rfl rfl Try.func87 (by kernel_rfl) rfl #[.agg #[.int .i64 a0_0, .int .u64 a0_1, .int .u64 a0_2, .int .u64 a0_3, .int .u64 a0_4, .slice A0_5 l0_5.length c0_5, .slice A0_6 l0_6.length c0_6, .slice A0_7 l0_7.length c0_7, .slice A0_8 l0_8.length c0_8]] rfl (by (try simp only [List.map_toArray, List.map_cons, List.map_nil]); first | done | rfl | (simp only [List.length_drop, List.length_take]; rfl)) ?_; (with_reducible refine (hist_open.calls a0_0 a0_1 a0_2 a0_3 a0_4 _ _ l0_5 _ _ l0_6 _ _ l0_7 _ _ l0_8 t102 t105 t108 _ ?side1 ?side2 ?side3 ?side4 ?side5 ?side6 ?side7 ?side8 A2.out).mono ?_); (case side1 => repeat (first | exact (Kd.C_below HR0_5.out HB.out) | (with_reducible refine Kd.C_alloc ?_ _) | (with_reducible refine Kd.C_drewN ?_ _) | (with_reducible refine Kd.C_drew ?_))); (case side2 => exact HC0_5.out); (case side3 => repeat (first | exact (Kd.C_below HR0_6.out HB.out) | (with_reducible refine Kd.C_alloc ?_ _) | (with_reducible refine Kd.C_drewN ?_ _) | (with_reducible refine Kd.C_drew ?_))); (case side4 => exact HC0_6.out); (case side5 => repeat (first | exact (Kd.C_below HR0_7.out HB.out) | (with_reducible refine Kd.C_alloc ?_ _) | (with_reducible refine Kd.C_drewN ?_ _) | (with_reducible refine Kd.C_drew ?_))); (case side6 => exact HC0_7.out); (case side7 => repeat (first | exact (Kd.C_below HR0_8.out HB.out) | (with_reducible refine Kd.C_alloc ?_ _) | (with_reducible refine Kd.C_drewN ?_ _) | (with_reducible refine Kd.C_drew ?_))); (case side8 => exact HC0_8.out); rintro e w5 ⟨v103, v106, rfl, ho0, ho1, hb⟩; refine ⟨_, rfl, ?_⟩; have n0_ := Aside0.mk (Kd.R_lower ho0 (below_size (by repeat (first | (with_reducible first | exact HB.out | apply below_alloc | apply pw_below_drewN | apply below_drew1 | refine below_set ?_ GE101.out) | exact HB.out)))); have n1_ := Aside0.mk (Kd.R_lower ho1 (below_size (by repeat (first | (with_reducible first | exact HB.out | apply below_alloc | apply pw_below_drewN | apply below_drew1 | refine below_set ?_ GE101.out) | exact HB.out)))); have n2_ := Aside0.mk (blk_below (g := gb101) (o := .cells #[.int .i64 a0_0, .int .u64 a0_1, .int .u64 a0_2, .int .u64 a0_3, .int .u64 a0_4, .slice A0_5 l0_5.length c0_5, .slice A0_6 l0_6.length c0_6, .slice A0_7 l0_7.length c0_7, .slice A0_8 l0_8.length c0_8] 26 (0, 0)) (by (with_reducible repeat (first | refine blk_drewN ?_ _ | refine blk_drew ?_ | refine blk_alloc ?_ _)); exact BK101.out) hb); have n3_ := Aside0.mk (below_step (by repeat (first | (with_reducible first | exact HB.out | apply below_alloc | apply pw_below_drewN | apply below_drew1 | refine below_set ?_ GE101.out) | exact HB.out)) hb); clear BK101; clear HB; have HO104 := n0_; have HO107 := n1_; have BK101 := n2_; have HB := n3_; clear n0_ n1_ n2_ n3_; (try clear hb); (try clear hb2); (try clear hk); (try clear hi); (try clear ho0); (try clear ho1); clear A2))
 go_ret
 exact ⟨by first | rfl | (simp [errW_none, errW_some] <;> rfl) | (simp [*, errW_none, errW_some] <;> rfl), by repeat (first | (with_reducible first | exact HB.out | apply below_alloc | apply pw_below_drewN | apply below_drew1 | refine below_set ?_ GE101.out) | exact HB.out)⟩
end Go.Proofs.Ytefiabakfpfbaaa.P
namespace Go.Proofs.Ytefiabakfpfbaaa.P
open Go.RowKit Go.Proofs.YtefiabakfpfbaaaW.PrintWords Go.Proofs.YtefiabakfpfbaaaW.PrintLast Go.Proofs.YtefiabakfpfbaaaW.PrintMore
attribute [local go_sem] max2_int min2_int max_two min_two max_three min_three max_four min_four
def fhist_From.f (a0_0 : Int) (a0_1 : Int) (a0_2 : Int) (a0_3 : Int) (a0_4 : Int) (l0_5 : List (S111)) (l0_6 : List (S111)) (l0_7 : List Int) (l0_8 : List Int) : Option (Int × Int × Int × Int × Int × (List (S111)) × (List (S111)) × List Int × List Int × Int) := (hist_Check.f a0_0 a0_1 a0_2 a0_3 a0_4 l0_5 l0_6 l0_7 l0_8).bind fun t103 => (if t103 = 0 then ((fhist_Float.f a0_2).bind fun t104 => ((fhist_Float.f a0_3).bind fun t105 => ((slices_Clone_span.f l0_5).bind fun t106 => ((slices_Clone_span.f l0_6).bind fun t109 => ((fhist_floats.f l0_7).bind fun t112 => ((fhist_floats.f l0_8).bind fun t115 => (some (a0_0, a0_1, t104, t105, a0_4, t106, t109, t112, t115, 0)))))))) else (some (0, 0, 0, 0, 0, ([] : List (S111)), ([] : List (S111)), ([] : List Int), ([] : List Int), t103)))
def fhist_From.T4 : Bool × List (List Nat × List Nat) := (true, [([], []), ([0], [0]), ([], []), ([2], [2]), ([], []), ([4], [4]), ([5], [5]), ([], []), ([7], [7]), ([8, 6], [8]), ([], []), ([10], [10]), ([], []), ([12], [12]), ([13, 9], [13]), ([], []), ([15], [15]), ([16, 14], [16]), ([], []), ([18], [18]), ([19, 17], [19]), ([], []), ([21], [21]), ([22, 20], [22]), ([1, 3, 6, 9, 11, 14, 17, 20, 23], [1, 3, 6, 9, 11, 14, 17, 20, 23]), ([24, 23, 0, 1, 2, 3, 4, 5, 6, 7, 8, 9, 10, 11, 12, 13, 14, 15, 16, 17, 18, 19, 20, 21, 22, 23, 24], [24]), ([25, 0, 1, 2, 3, 4, 5, 6, 7, 8, 9, 10, 11, 12, 13, 14, 15, 16, 17, 18, 19, 20, 21, 22, 23, 24, 25], [])])
def fhist_From.B4 : List Nat := [0, 1, 0, 4, 0, 16, 48, 0, 128, 496, 0, 1024, 0, 4096, 13296, 0, 32768, 127984, 0, 262144, 1045488, 0, 2097152, 8385520, 16777215, 33554431, 67108863]
theorem fhist_From.tab4 : rtab .any (opsOf Try.f25 4) = fhist_From.T4 := by kernel_rfl
theorem fhist_From.bits4 : waitsOk fhist_From.T4.2 fhist_From.B4 = true := by kernel_rfl
set_option maxHeartbeats 8000000 in
set_option maxRecDepth 100000 in
theorem fhist_From.calls (a0_0 : Int) (a0_1 : Int) (a0_2 : Int) (a0_3 : Int) (a0_4 : Int) (A0_5 : Option Addr) (c0_5 : Nat) (l0_5 : List (S111)) (A0_6 : Option Addr) (c0_6 : Nat) (l0_6 : List (S111)) (A0_7 : Option Addr) (c0_7 : Nat) (l0_7 : List Int) (A0_8 : Option Addr) (c0_8 : Nat) (l0_8 : List Int) (r1 : Int) (r2 : Int) (r3 : Int) (r4 : Int) (r5 : Int) (r6 : List (S111)) (r7 : List (S111)) (r8 : List Int) (r9 : List Int) (r10 : Int) (w : World) (hr0_5 : Kd.C k111 w A0_5 l0_5.length l0_5) (hc0_5 : l0_5.length ≤ c0_5) (hr0_6 : Kd.C k111 w A0_6 l0_6.length l0_6) (hc0_6 : l0_6.length ≤ c0_6) (hr0_7 : Kd.C (Kd.int .i64) w A0_7 l0_7.length l0_7) (hc0_7 : l0_7.length ≤ c0_7) (hr0_8 : Kd.C (Kd.int .i64) w A0_8 l0_8.length l0_8) (hc0_8 : l0_8.length ≤ c0_8) (h : fhist_From.f a0_0 a0_1 a0_2 a0_3 a0_4 l0_5 l0_6 l0_7 l0_8 = some (r1, r2, r3, r4, r5, r6, r7, r8, r9, r10)) :
  Calls Try.prog 25 #[.agg #[.int .i64 a0_0, .int .u64 a0_1, .int .u64 a0_2, .int .u64 a0_3, .int .u64 a0_4, .slice A0_5 l0_5.length c0_5, .slice A0_6 l0_6.length c0_6, .slice A0_7 l0_7.length c0_7, .slice A0_8 l0_8.length c0_8]] w fun e w' => ∃ v5_ v6_ v7_ v8_ : Value, e = .returned (.tuple #[.agg #[.int .i64 r1, .int .u64 r2, .int .u64 r3, .int .u64 r4, .int .u64 r5, v5_, v6_, v7_, v8_], .int .i64 r10]) ∧ Kd.R k111 111 w' w.heap.size (fun k_ => some k_ ≠ (v6_ : Value).ownBlock) v5_ r6 ∧ Kd.R k111 111 w' w.heap.size (fun k_ => some k_ ≠ (v5_ : Value).ownBlock) v6_ r7 ∧ Kd.R (Kd.int .u64) 22 w' w.heap.size (fun k_ => some k_ ≠ (v8_ : Value).ownBlock) v7_ r8 ∧ Kd.R (Kd.int .u64) 22 w' w.heap.size (fun k_ => some k_ ≠ (v7_ : Value).ownBlock) v8_ r9 ∧ Below w.heap.size w w' := by
 have hu26 := Try.underlying26
 have hu53 := Try.underlying53
 have HR0_5 := Aside0.mk hr0_5
 have HC0_5 := Aside0.mk hc0_5
 clear hr0_5 hc0_5
 have HR0_6 := Aside0.mk hr0_6
 have HC0_6 := Aside0.mk hc0_6
 clear hr0_6 hc0_6
 have HR0_7 := Aside0.mk hr0_7
 have HC0_7 := Aside0.mk hc0_7
 clear hr0_7 hc0_7
 have HR0_8 := Aside0.mk hr0_8
 have HC0_8 := Aside0.mk hc0_8
 clear hr0_8 hc0_8
 have HB := Aside0.mk (Below.refl w.heap.size w)
 have H : ((hist_Check.f a0_0 a0_1 a0_2 a0_3 a0_4 l0_5 l0_6 l0_7 l0_8).bind fun t103 => (if t103 = 0 then ((fhist_Float.f a0_2).bind fun t104 => ((fhist_Float.f a0_3).bind fun t105 => ((slices_Clone_span.f l0_5).bind fun t106 => ((slices_Clone_span.f l0_6).bind fun t109 => ((fhist_floats.f l0_7).bind fun t112 => ((fhist_floats.f l0_8).bind fun t115 => (some (a0_0, a0_1, t104, t105, a0_4, t106, t109, t112, t115, 0)))))))) else (some (0, 0, 0, 0, 0, ([] : List (S111)), ([] : List (S111)), ([] : List Int), ([] : List Int), t103)))) = some (r1, r2, r3, r4, r5, r6, r7, r8, r9, r10) := h
 clear h
 replace H := Option.bind_eq_some_iff.mp H
 obtain ⟨t103, A20, H⟩ := H
 replace H : (if t103 = 0 then ((fhist_Float.f a0_2).bind fun t104 => ((fhist_Float.f a0_3).bind fun t105 => ((slices_Clone_span.f l0_5).bind fun t106 => ((slices_Clone_span.f l0_6).bind fun t109 => ((fhist_floats.f l0_7).bind fun t112 => ((fhist_floats.f l0_8).bind fun t115 => (some (a0_0, a0_1, t104, t105, a0_4, t106, t109, t112, t115, 0)))))))) else (some (0, 0, 0, 0, 0, ([] : List (S111)), ([] : List (S111)), ([] : List Int), ([] : List Int), t103))) = some (r1, r2, r3, r4, r5, r6, r7, r8, r9, r10) := H
 have A2 := Aside0.mk A20
 clear A20
 by_cases c3 : t103 = 0
 ·rw [if_pos c3] at H
  have c3b0 : (t103 == 0) = true := beq_iff_eq.mpr c3
  have c3b1 : (t103 != 0) = false := bne_eq_false_iff_eq.mpr c3
  clear c3
  replace H := Option.bind_eq_some_iff.mp H
  obtain ⟨t104, A40, H⟩ := H
  replace H : ((fhist_Float.f a0_3).bind fun t105 => ((slices_Clone_span.f l0_5).bind fun t106 => ((slices_Clone_span.f l0_6).bind fun t109 => ((fhist_floats.f l0_7).bind fun t112 => ((fhist_floats.f l0_8).bind fun t115 => (some (a0_0, a0_1, t104, t105, a0_4, t106, t109, t112, t115, 0))))))) = some (r1, r2, r3, r4, r5, r6, r7, r8, r9, r10) := H
  have A4 := Aside0.mk A40
  clear A40
  replace H := Option.bind_eq_some_iff.mp H
  obtain ⟨t105, A50, H⟩ := H
  replace H : ((slices_Clone_span.f l0_5).bind fun t106 => ((slices_Clone_span.f l0_6).bind fun t109 => ((fhist_floats.f l0_7).bind fun t112 => ((fhist_floats.f l0_8).bind fun t115 => (some (a0_0, a0_1, t104, t105, a0_4, t106, t109, t112, t115, 0)))))) = some (r1, r2, r3, r4, r5, r6, r7, r8, r9, r10) := H
  have A5 := Aside0.mk A50
  clear A50
  replace H := Option.bind_eq_some_iff.mp H
  obtain ⟨t106, A60, H⟩ := H
  replace H : ((slices_Clone_span.f l0_6).bind fun t109 => ((fhist_floats.f l0_7).bind fun t112 => ((fhist_floats.f l0_8).bind fun t115 => (some (a0_0, a0_1, t104, t105, a0_4, t106, t109, t112, t115, 0))))) = some (r1, r2, r3, r4, r5, r6, r7, r8, r9, r10) := H
  have A6 := Aside0.mk A60
  clear A60
  replace H := Option.bind_eq_some_iff.mp H
  obtain ⟨t109, A70, H⟩ := H
  replace H : ((fhist_floats.f l0_7).bind fun t112 => ((fhist_floats.f l0_8).bind fun t115 => (some (a0_0, a0_1, t104, t105, a0_4, t106, t109, t112, t115, 0)))) = some (r1, r2, r3, r4, r5, r6, r7, r8, r9, r10) := H
  have A7 := Aside0.mk A70
  clear A70
  replace H := Option.bind_eq_some_iff.mp H
  obtain ⟨t112, A80, H⟩ := H
  replace H : ((fhist_floats.f l0_8).bind fun t115 => (some (a0_0, a0_1, t104, t105, a0_4, t106, t109, t112, t115, 0))) = some (r1, r2, r3, r4, r5, r6, r7, r8, r9, r10) := H
  have A8 := Aside0.mk A80
  clear A80
  replace H := Option.bind_eq_some_iff.mp H
  obtain ⟨t115, A90, H⟩ := H
  replace H : (some (a0_0, a0_1, t104, t105, a0_4, t106, t109, t112, t115, 0)) = some (r1, r2, r3, r4, r5, r6, r7, r8, r9, r10) := H
  have A9 := Aside0.mk A90
  clear A90
  simp only [Option.some.injEq, Prod.mk.injEq] at H
  obtain ⟨rfl, rfl, rfl, rfl, rfl, rfl, rfl, rfl, rfl, rfl⟩ := H
  go_enter Try.func25, Try.ntmps25
  try go_wp2_with (first | ((with_reducible refine gate_dst (N := 1) rfl ?_); refine box_event ?hg (N := 1) ?hd (cs := #[.int .i64 a0_0, .int .u64 a0_1, .int .u64 a0_2, .int .u64 a0_3, .int .u64 a0_4, .slice A0_5 l0_5.length c0_5, .slice A0_6 l0_6.length c0_6, .slice A0_7 l0_7.length c0_7, .slice A0_8 l0_8.length c0_8]) (t := 26) ?hr ?_; (case hd => rfl); (case hg => rfl); (case hr => first | (go_simp; done) | (go_simp; rfl)); intro gb101 hg w10 hbox hb; have n0_ := Aside0.mk (below_step (by repeat (first | (with_reducible first | exact HB.out | apply below_alloc | apply pw_below_drewN | apply below_drew1) | exact HB.out)) hb); have n1_ := Aside0.mk (hbox); have n2_ := Aside0.mk ((by rw [hg]; exact (below_size (by repeat (first | (with_reducible first | exact HB.out | apply below_alloc | apply pw_below_drewN | apply below_drew1) | exact HB.out))) : w.heap.size ≤ gb101)); have n3_ := Aside0.mk ((by rw [hg]; exact (below_size (by repeat (first | (with_reducible first | exact HB.out | apply below_alloc | apply pw_below_drewN | apply below_drew1) | exact HB.out))) : w.heap.size ≤ gb101)); clear HB; have HB := n0_; have BK101 := n1_; have GW101 := n2_; have GE101 := n3_; clear n0_ n1_ n2_ n3_; clear hb hbox hg) | ((with_reducible refine gate_dst (N := 2) rfl ?_); refine box_event ?hg (N := 2) ?hd (cs := #[.int .i64 0, .int .u64 0, .int .u64 0, .int .u64 0, .int .u64 0, .slice none 0 0, .slice none 0 0, .slice none 0 0, .slice none 0 0]) (t := 53) ?hr ?_; (case hd => rfl); (case hg => rfl); (case hr => first | (go_simp; done) | (go_simp; rfl)); intro gb102 hg w11 hbox hb; have n0_ := Aside0.mk (blk_below (g := gb101) (o := .cells #[.int .i64 a0_0, .int .u64 a0_1, .int .u64 a0_2, .int .u64 a0_3, .int .u64 a0_4, .slice A0_5 l0_5.length c0_5, .slice A0_6 l0_6.length c0_6, .slice A0_7 l0_7.length c0_7, .slice A0_8 l0_8.length c0_8] 26 (0, 0)) (by (with_reducible repeat (first | refine blk_drewN ?_ _ | refine blk_drew ?_ | refine blk_alloc ?_ _)); exact BK101.out) hb); have n1_ := Aside0.mk (below_step (by repeat (first | (with_reducible first | exact HB.out | apply below_alloc | apply pw_below_drewN | apply below_drew1 | refine below_set ?_ GE101.out) | exact HB.out)) hb); have n2_ := Aside0.mk (hbox); have n3_ := Aside0.mk ((by rw [hg]; exact (below_size (by repeat (first | (with_reducible first | exact HB.out | apply below_alloc | apply pw_below_drewN | apply below_drew1 | refine below_set ?_ GE101.out) | exact HB.out))) : w.heap.size ≤ gb102)); have n4_ := Aside0.mk ((by rw [hg]; exact (below_size (by repeat (first | (with_reducible first | exact HB.out | apply below_alloc | apply pw_below_drewN | apply below_drew1 | refine below_set ?_ GE101.out) | exact HB.out))) : w.heap.size ≤ gb102)); have n5_ := Aside0.mk ((by rw [hg]; exact Nat.ne_of_lt (blk_lt (g := gb101) (o := .cells #[.int .i64 a0_0, .int .u64 a0_1, .int .u64 a0_2, .int .u64 a0_3, .int .u64 a0_4, .slice A0_5 l0_5.length c0_5, .slice A0_6 l0_6.length c0_6, .slice A0_7 l0_7.length c0_7, .slice A0_8 l0_8.length c0_8] 26 (0, 0)) (by (with_reducible repeat (first | refine blk_drewN ?_ _ | refine blk_drew ?_ | refine blk_alloc ?_ _)); exact BK101.out)) : gb101 ≠ gb102)); have n6_ := Aside0.mk ((by rw [hg]; exact Nat.ne_of_gt (blk_lt (g := gb101) (o := .cells #[.int .i64 a0_0, .int .u64 a0_1, .int .u64 a0_2, .int .u64 a0_3, .int .u64 a0_4, .slice A0_5 l0_5.length c0_5, .slice A0_6 l0_6.length c0_6, .slice A0_7 l0_7.length c0_7, .slice A0_8 l0_8.length c0_8] 26 (0, 0)) (by (with_reducible repeat (first | refine blk_drewN ?_ _ | refine blk_drew ?_ | refine blk_alloc ?_ _)); exact BK101.out)) : gb102 ≠ gb101)); clear BK101; clear HB; have BK101 := n0_; have HB := n1_; have BK102 := n2_; have GW102 := n3_; have GE102 := n4_; have NB101_102 := n5_; have NB102_101 := n6_; clear n0_ n1_ n2_ n3_ n4_ n5_ n6_; clear hb hbox hg; have hnb12 := NB101_102.out; have hnc12 := NB102_101.out; have hcz13_0 : w11.cell? ⟨gb101, 0, none⟩ = some (.int .i64 a0_0) := (blk_cell BK101.out 0).trans rfl; have hcz13_1 : w11.cell? ⟨gb101, 1, none⟩ = some (.int .u64 a0_1) := (blk_cell BK101.out 1).trans rfl; have hcz13_2 : w11.cell? ⟨gb101, 2, none⟩ = some (.int .u64 a0_2) := (blk_cell BK101.out 2).trans rfl; have hcz13_3 : w11.cell? ⟨gb101, 3, none⟩ = some (.int .u64 a0_3) := (blk_cell BK101.out 3).trans rfl; have hcz13_4 : w11.cell? ⟨gb101, 4, none⟩ = some (.int .u64 a0_4) := (blk_cell BK101.out 4).trans rfl; have hcz13_5 : w11.cell? ⟨gb101, 5, none⟩ = some (.slice A0_5 l0_5.length c0_5) := (blk_cell BK101.out 5).trans rfl; have hcz13_6 : w11.cell? ⟨gb101, 6, none⟩ = some (.slice A0_6 l0_6.length c0_6) := (blk_cell BK101.out 6).trans rfl; have hcz13_7 : w11.cell? ⟨gb101, 7, none⟩ = some (.slice A0_7 l0_7.length c0_7) := (blk_cell BK101.out 7).trans rfl; have hcz13_8 : w11.cell? ⟨gb101, 8, none⟩ = some (.slice A0_8 l0_8.length c0_8) := (blk_cell BK101.out 8).trans rfl; have hfz13_0 := blk_frozen BK101.out 0; have hfz13_1 := blk_frozen BK101.out 1; have hfz13_2 := blk_frozen BK101.out 2; have hfz13_3 := blk_frozen BK101.out 3; have hfz13_4 := blk_frozen BK101.out 4; have hfz13_5 := blk_frozen BK101.out 5; have hfz13_6 := blk_frozen BK101.out 6; have hfz13_7 := blk_frozen BK101.out 7; have hfz13_8 := blk_frozen BK101.out 8) | ((with_reducible refine gate_callee (f := 55) rfl ?_); refine goesL_ (some 6) rfl rfl Try.func55 (by kernel_rfl) rfl #[.agg #[.int .i64 a0_0, .int .u64 a0_1, .int .u64 a0_2, .int .u64 a0_3, .int .u64 a0_4, .slice A0_5 l0_5.length c0_5, .slice A0_6 l0_6.length c0_6, .slice A0_7 l0_7.length c0_7, .slice A0_8 l0_8.length c0_8]] rfl (by (try simp only [List.map_toArray, List.map_cons, List.map_nil]); first | done | rfl | (simp only [List.length_drop, List.length_take]; rfl)) ?_; (with_reducible refine (hist_Check.calls a0_0 a0_1 a0_2 a0_3 a0_4 _ _ l0_5 _ _ l0_6 _ _ l0_7 _ _ l0_8 t103 _ ?side1 ?side2 ?side3 ?side4 ?side5 ?side6 ?side7 ?side8 A2.out).mono ?_); (case side1 => repeat (first | exact (Kd.C_below HR0_5.out HB.out) | (with_reducible refine Kd.C_alloc ?_ _) | (with_reducible refine Kd.C_drewN ?_ _) | (with_reducible refine Kd.C_drew ?_))); (case side2 => exact HC0_5.out); (case side3 => repeat (first | exact (Kd.C_below HR0_6.out HB.out) | (with_reducible refine Kd.C_alloc ?_ _) | (with_reducible refine Kd.C_drewN ?_ _) | (with_reducible refine Kd.C_drew ?_))); (case side4 => exact HC0_6.out); (case side5 => repeat (first | exact (Kd.C_below HR0_7.out HB.out) | (with_reducible refine Kd.C_alloc ?_ _) | (with_reducible refine Kd.C_drewN ?_ _) | (with_reducible refine Kd.C_drew ?_))); (case side6 => exact HC0_7.out); (case side7 => repeat (first | exact (Kd.C_below HR0_8.out HB.out) | (with_reducible refine Kd.C_alloc ?_ _) | (with_reducible refine Kd.C_drewN ?_ _) | (with_reducible refine Kd.C_drew ?_))); (case side8 => exact HC0_8.out); rintro e w14 ⟨rfl, hb⟩; refine ⟨_, rfl, ?_⟩; have n0_ := Aside0.mk (blk_below (g := gb101) (o := .cells #[.int .i64 a0_0, .int .u64 a0_1, .int .u64 a0_2, .int .u64 a0_3, .int .u64 a0_4, .slice A0_5 l0_5.length c0_5, .slice A0_6 l0_6.length c0_6, .slice A0_7 l0_7.length c0_7, .slice A0_8 l0_8.length c0_8] 26 (0, 0)) (by (with_reducible repeat (first | refine blk_drewN ?_ _ | refine blk_drew ?_ | refine blk_alloc ?_ _)); exact BK101.out) hb); have n1_ := Aside0.mk (blk_below (g := gb102) (o := .cells #[.int .i64 0, .int .u64 0, .int .u64 0, .int .u64 0, .int .u64 0, .slice none 0 0, .slice none 0 0, .slice none 0 0, .slice none 0 0] 53 (0, 0)) (by (with_reducible repeat (first | refine blk_drewN ?_ _ | refine blk_drew ?_ | refine blk_alloc ?_ _)); exact BK102.out) hb); have n2_ := Aside0.mk (below_step (by repeat (first | (with_reducible first | exact HB.out | apply below_alloc | apply pw_below_drewN | apply below_drew1 | refine below_set ?_ GE101.out | refine below_set ?_ GE102.out) | exact HB.out)) hb); clear BK101; clear BK102; clear HB; have BK101 := n0_; have BK102 := n1_; have HB := n2_; clear n0_ n1_ n2_; (try clear hb); (try clear hb2); (try clear hk); (try clear hi); clear A2))
  have n0_ := Aside0.mk (blk_drew BK101.out)
  have n1_ := Aside0.mk (blk_drew BK102.out)
  have n2_ := Aside0.mk (below_drew1 HB.out)
  clear BK101
  clear BK102
  clear HB
  have BK101 := n0_
  have BK102 := n1_
  have HB := n2_
  clear n0_ n1_ n2_
  refine start_ (n := 27) (S := fun w' => w'.cell? ⟨gb101, 0, none⟩ = some (.int .i64 a0_0) ∧ w'.cell? ⟨gb101, 1, none⟩ = some (.int .u64 a0_1) ∧ w'.cell? ⟨gb101, 2, none⟩ = some (.int .u64 a0_2) ∧ w'.cell? ⟨gb101, 3, none⟩ = some (.int .u64 a0_3) ∧ w'.cell? ⟨gb101, 4, none⟩ = some (.int .u64 a0_4) ∧ w'.cell? ⟨gb101, 5, none⟩ = some (.slice A0_5 l0_5.length c0_5) ∧ w'.cell? ⟨gb101, 6, none⟩ = some (.slice A0_6 l0_6.length c0_6) ∧ w'.cell? ⟨gb101, 7, none⟩ = some (.slice A0_7 l0_7.length c0_7) ∧ w'.cell? ⟨gb101, 8, none⟩ = some (.slice A0_8 l0_8.length c0_8)) (ds := []) #[false, false, false, false, false, false, false, false, false, false, false, false, false, false, false, false, false, false, false, false, false, false, false, false, false, false, false] (by kernel_rfl) rfl rfl ⟨(blk_cell BK101.out 0).trans rfl, (blk_cell BK101.out 1).trans rfl, (blk_cell BK101.out 2).trans rfl, (blk_cell BK101.out 3).trans rfl, (blk_cell BK101.out 4).trans rfl, (blk_cell BK101.out 5).trans rfl, (blk_cell BK101.out 6).trans rfl, (blk_cell BK101.out 7).trans rfl, (blk_cell BK101.out 8).trans rfl⟩ (fun hHeld => ?_); refine with_tabW fhist_From.tab4 fhist_From.bits4 (fun HT_ HW_ => ?_)
  generalize w14.drew = w15 at BK101 BK102 HB hHeld ⊢
  refine pure_ (i := 0) (N := some 11) (v := ?_) (a' := ?_) #[true, false, false, false, false, false, false, false, false, false, false, false, false, false, false, false, false, false, false, false, false, false, false, false, false, false, false] rfl rfl (any_of HT_.out (by kernel_rfl)) (fun _ _ _ h => h) (Or.inl ⟨by rfl, ?_⟩) ?_ ?_
  rotate_left
  ·intro w'
   go_simp
   with_reducible rfl
  rotate_left
  ·simp only [Act.put, List.setIfInBounds_toArray, List.set_cons_zero, List.set_cons_succ, i64_w, i32_w]
   rfl
  refine pure_ (i := 2) (N := some 13) (v := ?_) (a' := ?_) #[true, false, true, false, false, false, false, false, false, false, false, false, false, false, false, false, false, false, false, false, false, false, false, false, false, false, false] rfl rfl (any_of HT_.out (by kernel_rfl)) (fun _ _ _ h => h) (Or.inl ⟨by rfl, ?_⟩) ?_ ?_
  rotate_left
  ·intro w'
   go_simp
   with_reducible rfl
  rotate_left
  ·simp only [Act.put, List.setIfInBounds_toArray, List.set_cons_zero, List.set_cons_succ, i64_w, i32_w]
   rfl
  refine pure_ (i := 4) (N := some 15) (v := ?_) (a' := ?_) #[true, false, true, false, true, false, false, false, false, false, false, false, false, false, false, false, false, false, false, false, false, false, false, false, false, false, false] rfl rfl (any_of HT_.out (by kernel_rfl)) (fun _ _ _ h => h) (Or.inl ⟨by rfl, ?_⟩) ?_ ?_
  rotate_left
  ·intro w'
   go_simp
   with_reducible rfl
  rotate_left
  ·simp only [Act.put, List.setIfInBounds_toArray, List.set_cons_zero, List.set_cons_succ, i64_w, i32_w]
   rfl
  refine pure_ (i := 7) (N := some 18) (v := ?_) (a' := ?_) #[true, false, true, false, true, false, false, true, false, false, false, false, false, false, false, false, false, false, false, false, false, false, false, false, false, false, false] rfl rfl (any_of HT_.out (by kernel_rfl)) (fun _ _ _ h => h) (Or.inl ⟨by rfl, ?_⟩) ?_ ?_
  rotate_left
  ·intro w'
   go_simp
   with_reducible rfl
  rotate_left
  ·simp only [Act.put, List.setIfInBounds_toArray, List.set_cons_zero, List.set_cons_succ, i64_w, i32_w]
   rfl
  refine pure_ (i := 10) (N := some 21) (v := ?_) (a' := ?_) #[true, false, true, false, true, false, false, true, false, false, true, false, false, false, false, false, false, false, false, false, false, false, false, false, false, false, false] rfl rfl (any_of HT_.out (by kernel_rfl)) (fun _ _ _ h => h) (Or.inl ⟨by rfl, ?_⟩) ?_ ?_
  rotate_left
  ·intro w'
   go_simp
   with_reducible rfl
  rotate_left
  ·simp only [Act.put, List.setIfInBounds_toArray, List.set_cons_zero, List.set_cons_succ, i64_w, i32_w]
   rfl
  refine pure_ (i := 12) (N := some 23) (v := ?_) (a' := ?_) #[true, false, true, false, true, false, false, true, false, false, true, false, true, false, false, false, false, false, false, false, false, false, false, false, false, false, false] rfl rfl (any_of HT_.out (by kernel_rfl)) (fun _ _ _ h => h) (Or.inl ⟨by rfl, ?_⟩) ?_ ?_
  rotate_left
  ·intro w'
   go_simp
   with_reducible rfl
  rotate_left
  ·simp only [Act.put, List.setIfInBounds_toArray, List.set_cons_zero, List.set_cons_succ, i64_w, i32_w]
   rfl
  refine pure_ (i := 15) (N := some 26) (v := ?_) (a' := ?_) #[true, false, true, false, true, false, false, true, false, false, true, false, true, false, false, true, false, false, false, false, false, false, false, false, false, false, false] rfl rfl (any_of HT_.out (by kernel_rfl)) (fun _ _ _ h => h) (Or.inl ⟨by rfl, ?_⟩) ?_ ?_
  rotate_left
  ·intro w'
   go_simp
   with_reducible rfl
  rotate_left
  ·simp only [Act.put, List.setIfInBounds_toArray, List.set_cons_zero, List.set_cons_succ, i64_w, i32_w]
   rfl
  refine pure_ (i := 18) (N := some 29) (v := ?_) (a' := ?_) #[true, false, true, false, true, false, false, true, false, false, true, false, true, false, false, true, false, false, true, false, false, false, false, false, false, false, false] rfl rfl (any_of HT_.out (by kernel_rfl)) (fun _ _ _ h => h) (Or.inl ⟨by rfl, ?_⟩) ?_ ?_
  rotate_left
  ·intro w'
   go_simp
   with_reducible rfl
  rotate_left
  ·simp only [Act.put, List.setIfInBounds_toArray, List.set_cons_zero, List.set_cons_succ, i64_w, i32_w]
   rfl
  refine pure_ (i := 21) (N := some 32) (v := ?_) (a' := ?_) #[true, false, true, false, true, false, false, true, false, false, true, false, true, false, false, true, false, false, true, false, false, true, false, false, false, false, false] rfl rfl (any_of HT_.out (by kernel_rfl)) (fun _ _ _ h => h) (Or.inl ⟨by rfl, ?_⟩) ?_ ?_
  rotate_left
  ·intro w'
   go_simp
   with_reducible rfl
  rotate_left
  ·simp only [Act.put, List.setIfInBounds_toArray, List.set_cons_zero, List.set_cons_succ, i64_w, i32_w]
   rfl
  refine take_ (i := 1) (N := some 12) (v := ?_) (a' := ?_) #[true, true, true, false, true, false, false, true, false, false, true, false, true, false, false, true, false, false, true, false, false, true, false, false, false, false, false] rfl rfl (take_ofW HT_.out HW_.out (by kernel_rfl)) (fun _ _ _ h => h) (Or.inl ⟨by rfl, ?_⟩) hHeld ?_ ?_
  rotate_left
  ·rintro w' ⟨s0, s1, s2, s3, s4, s5, s6, s7, s8⟩
   go_simp
   with_reducible rfl
  rotate_left
  ·simp only [Act.put, List.setIfInBounds_toArray, List.set_cons_zero, List.set_cons_succ, i64_w, i32_w]
   rfl
  refine take_ (i := 3) (N := some 14) (v := ?_) (a' := ?_) #[true, true, true, true, true, false, false, true, false, false, true, false, true, false, false, true, false, false, true, false, false, true, false, false, false, false, false] rfl rfl (take_ofW HT_.out HW_.out (by kernel_rfl)) (fun _ _ _ h => h) (Or.inl ⟨by rfl, ?_⟩) hHeld ?_ ?_
  rotate_left
  ·rintro w' ⟨s0, s1, s2, s3, s4, s5, s6, s7, s8⟩
   go_simp
   with_reducible rfl
  rotate_left
  ·simp only [Act.put, List.setIfInBounds_toArray, List.set_cons_zero, List.set_cons_succ, i64_w, i32_w]
   rfl
  refine take_ (i := 5) (N := some 16) (v := ?_) (a' := ?_) #[true, true, true, true, true, true, false, true, false, false, true, false, true, false, false, true, false, false, true, false, false, true, false, false, false, false, false] rfl rfl (take_ofW HT_.out HW_.out (by kernel_rfl)) (fun _ _ _ h => h) (Or.inl ⟨by rfl, ?_⟩) hHeld ?_ ?_
  rotate_left
  ·rintro w' ⟨s0, s1, s2, s3, s4, s5, s6, s7, s8⟩
   go_simp
   with_reducible rfl
  rotate_left
  ·simp only [Act.put, List.setIfInBounds_toArray, List.set_cons_zero, List.set_cons_succ, i64_w, i32_w]
   rfl
  refine take_ (i := 8) (N := some 19) (v := ?_) (a' := ?_) #[true, true, true, true, true, true, false, true, true, false, true, false, true, false, false, true, false, false, true, false, false, true, false, false, false, false, false] rfl rfl (take_ofW HT_.out HW_.out (by kernel_rfl)) (fun _ _ _ h => h) (Or.inl ⟨by rfl, ?_⟩) hHeld ?_ ?_
  rotate_left
  ·rintro w' ⟨s0, s1, s2, s3, s4, s5, s6, s7, s8⟩
   go_simp
   with_reducible rfl
  rotate_left
  ·simp only [Act.put, List.setIfInBounds_toArray, List.set_cons_zero, List.set_cons_succ, i64_w, i32_w]
   rfl
  refine take_ (i := 11) (N := some 22) (v := ?_) (a' := ?_) #[true, true, true, true, true, true, false, true, true, false, true, true, true, false, false, true, false, false, true, false, false, true, false, false, false, false, false] rfl rfl (take_ofW HT_.out HW_.out (by kernel_rfl)) (fun _ _ _ h => h) (Or.inl ⟨by rfl, ?_⟩) hHeld ?_ ?_
  rotate_left
  ·rintro w' ⟨s0, s1, s2, s3, s4, s5, s6, s7, s8⟩
   go_simp
   with_reducible rfl
  rotate_left
  ·simp only [Act.put, List.setIfInBounds_toArray, List.set_cons_zero, List.set_cons_succ, i64_w, i32_w]
   rfl
  refine take_ (i := 13) (N := some 24) (v := ?_) (a' := ?_) #[true, true, true, true, true, true, false, true, true, false, true, true, true, true, false, true, false, false, true, false, false, true, false, false, false, false, false] rfl rfl (take_ofW HT_.out HW_.out (by kernel_rfl)) (fun _ _ _ h => h) (Or.inl ⟨by rfl, ?_⟩) hHeld ?_ ?_
  rotate_left
  ·rintro w' ⟨s0, s1, s2, s3, s4, s5, s6, s7, s8⟩
   go_simp
   with_reducible rfl
  rotate_left
  ·simp only [Act.put, List.setIfInBounds_toArray, List.set_cons_zero, List.set_cons_succ, i64_w, i32_w]
   rfl
  refine take_ (i := 16) (N := some 27) (v := ?_) (a' := ?_) #[true, true, true, true, true, true, false, true, true, false, true, true, true, true, false, true, true, false, true, false, false, true, false, false, false, false, false] rfl rfl (take_ofW HT_.out HW_.out (by kernel_rfl)) (fun _ _ _ h => h) (Or.inl ⟨by rfl, ?_⟩) hHeld ?_ ?_
  rotate_left
  ·rintro w' ⟨s0, s1, s2, s3, s4, s5, s6, s7, s8⟩
   go_simp
   with_reducible rfl
  rotate_left
  ·simp only [Act.put, List.setIfInBounds_toArray, List.set_cons_zero, List.set_cons_succ, i64_w, i32_w]
   rfl
  refine take_ (i := 19) (N := some 30) (v := ?_) (a' := ?_) #[true, true, true, true, true, true, false, true, true, false, true, true, true, true, false, true, true, false, true, true, false, true, false, false, false, false, false] rfl rfl (take_ofW HT_.out HW_.out (by kernel_rfl)) (fun _ _ _ h => h) (Or.inl ⟨by rfl, ?_⟩) hHeld ?_ ?_
  rotate_left
  ·rintro w' ⟨s0, s1, s2, s3, s4, s5, s6, s7, s8⟩
   go_simp
   with_reducible rfl
  rotate_left
  ·simp only [Act.put, List.setIfInBounds_toArray, List.set_cons_zero, List.set_cons_succ, i64_w, i32_w]
   rfl
  refine take_ (i := 22) (N := some 33) (v := ?_) (a' := ?_) #[true, true, true, true, true, true, false, true, true, false, true, true, true, true, false, true, true, false, true, true, false, true, true, false, false, false, false] rfl rfl (take_ofW HT_.out HW_.out (by kernel_rfl)) (fun _ _ _ h => h) (Or.inl ⟨by rfl, ?_⟩) hHeld ?_ ?_
  rotate_left
  ·rintro w' ⟨s0, s1, s2, s3, s4, s5, s6, s7, s8⟩
   go_simp
   with_reducible rfl
  rotate_left
  ·simp only [Act.put, List.setIfInBounds_toArray, List.set_cons_zero, List.set_cons_succ, i64_w, i32_w]
   rfl
  refine one_ (i := 6) (N := some 17) #[true, true, true, true, true, true, true, true, true, false, true, true, true, true, false, true, true, false, true, true, false, true, true, false, false, false, false] rfl rfl (one_of HT_.out (by kernel_rfl)) (by decide) (fun K hK => ?_)
  refine goes_ Try.func20 (by kernel_rfl) rfl #[.int .u64 a0_2] (by rfl) rfl rfl (by (try simp only [List.map_toArray, List.map_cons, List.map_nil]); first | done | rfl | (simp only [List.length_drop, List.length_take]; rfl)) ?_
  with_reducible refine (fhist_Float.calls a0_2 t104 _ A4.out).mono ?_
  rintro e w' ⟨rfl, ⟨nd, rfl⟩⟩
  refine ⟨_, rfl, ?_⟩
  refine hK.out _ _ ⟨(blk_cell BK101.out 0).trans rfl, (blk_cell BK101.out 1).trans rfl, (blk_cell BK101.out 2).trans rfl, (blk_cell BK101.out 3).trans rfl, (blk_cell BK101.out 4).trans rfl, (blk_cell BK101.out 5).trans rfl, (blk_cell BK101.out 6).trans rfl, (blk_cell BK101.out 7).trans rfl, (blk_cell BK101.out 8).trans rfl⟩ (fun hHeld => ?_)
  clear hK K
  refine norm_ (a' := ?_) ?_ ?_
  rotate_left
  ·show Act.put _ (some 17) _ = _
   simp only [Act.put, List.setIfInBounds_toArray, List.set_cons_zero, List.set_cons_succ, i64_w, i32_w]
   rfl
  refine one_ (i := 9) (N := some 20) #[true, true, true, true, true, true, true, true, true, true, true, true, true, true, false, true, true, false, true, true, false, true, true, false, false, false, false] rfl rfl (one_of HT_.out (by kernel_rfl)) (by decide) (fun K hK => ?_)
  refine goes_ Try.func20 (by kernel_rfl) rfl #[.int .u64 a0_3] (by rfl) rfl rfl (by (try simp only [List.map_toArray, List.map_cons, List.map_nil]); first | done | rfl | (simp only [List.length_drop, List.length_take]; rfl)) ?_
  with_reducible refine (fhist_Float.calls a0_3 t105 _ A5.out).mono ?_
  rintro e w' ⟨rfl, ⟨nd, rfl⟩⟩
  refine ⟨_, rfl, ?_⟩
  refine hK.out _ _ ⟨(blk_cell BK101.out 0).trans rfl, (blk_cell BK101.out 1).trans rfl, (blk_cell BK101.out 2).trans rfl, (blk_cell BK101.out 3).trans rfl, (blk_cell BK101.out 4).trans rfl, (blk_cell BK101.out 5).trans rfl, (blk_cell BK101.out 6).trans rfl, (blk_cell BK101.out 7).trans rfl, (blk_cell BK101.out 8).trans rfl⟩ (fun hHeld => ?_)
  clear hK K
  refine norm_ (a' := ?_) ?_ ?_
  rotate_left
  ·show Act.put _ (some 20) _ = _
   simp only [Act.put, List.setIfInBounds_toArray, List.set_cons_zero, List.set_cons_succ, i64_w, i32_w]
   rfl
  refine one_ (i := 14) (N := some 25) #[true, true, true, true, true, true, true, true, true, true, true, true, true, true, true, true, true, false, true, true, false, true, true, false, false, false, false] rfl rfl (one_of HT_.out (by kernel_rfl)) (by decide) (fun K hK => ?_)
  refine goes_ Try.func70 (by kernel_rfl) rfl #[.slice A0_5 l0_5.length c0_5] (by rfl) rfl rfl (by (try simp only [List.map_toArray, List.map_cons, List.map_nil]); first | done | rfl | (simp only [List.length_drop, List.length_take]; rfl)) ?_
  with_reducible refine (slices_Clone_span.calls _ _ l0_5 t106 _ ?side1 ?side2 A6.out).mono ?_
  (case side1 => repeat (first | exact (Kd.C_below HR0_5.out (by repeat (first | (with_reducible first | exact HB.out | apply below_alloc | apply pw_below_drewN | apply below_drew1 | refine below_set ?_ GE101.out | refine below_set ?_ GE102.out) | exact HB.out))) | (with_reducible refine Kd.C_alloc ?_ _) | (with_reducible refine Kd.C_drewN ?_ _) | (with_reducible refine Kd.C_drew ?_)))
  (case side2 => exact HC0_5.out)
  rintro e w16 ⟨v107, rfl, ho0, hb⟩
  refine ⟨_, rfl, ?_⟩
  have n0_ := Aside0.mk (Kd.R_lower ho0 (below_size (by repeat (first | (with_reducible first | exact HB.out | apply below_alloc | apply pw_below_drewN | apply below_drew1 | refine below_set ?_ GE101.out | refine below_set ?_ GE102.out) | exact HB.out))))
  have n1_ := Aside0.mk (blk_below (g := gb101) (o := .cells #[.int .i64 a0_0, .int .u64 a0_1, .int .u64 a0_2, .int .u64 a0_3, .int .u64 a0_4, .slice A0_5 l0_5.length c0_5, .slice A0_6 l0_6.length c0_6, .slice A0_7 l0_7.length c0_7, .slice A0_8 l0_8.length c0_8] 26 (0, 0)) (by (with_reducible repeat (first | refine blk_drewN ?_ _ | refine blk_drew ?_ | refine blk_alloc ?_ _)); exact BK101.out) hb)
  have n2_ := Aside0.mk (blk_below (g := gb102) (o := .cells #[.int .i64 0, .int .u64 0, .int .u64 0, .int .u64 0, .int .u64 0, .slice none 0 0, .slice none 0 0, .slice none 0 0, .slice none 0 0] 53 (0, 0)) (by (with_reducible repeat (first | refine blk_drewN ?_ _ | refine blk_drew ?_ | refine blk_alloc ?_ _)); exact BK102.out) hb)
  have n3_ := Aside0.mk (below_step (by repeat (first | (with_reducible first | exact HB.out | apply below_alloc | apply pw_below_drewN | apply below_drew1 | refine below_set ?_ GE101.out | refine below_set ?_ GE102.out) | exact HB.out)) hb)
  clear BK101
  clear BK102
  clear HB
  have HO108 := n0_
  have BK101 := n1_
  have BK102 := n2_
  have HB := n3_
  clear n0_ n1_ n2_ n3_
  (try clear hb)
  (try clear hb2)
  (try clear hk)
  (try clear hi)
  (try clear ho0)
  refine hK.out _ _ ⟨(blk_cell BK101.out 0).trans rfl, (blk_cell BK101.out 1).trans rfl, (blk_cell BK101.out 2).trans rfl, (blk_cell BK101.out 3).trans rfl, (blk_cell BK101.out 4).trans rfl, (blk_cell BK101.out 5).trans rfl, (blk_cell BK101.out 6).trans rfl, (blk_cell BK101.out 7).trans rfl, (blk_cell BK101.out 8).trans rfl⟩ (fun hHeld => ?_)
  clear hK K
  refine norm_ (a' := ?_) ?_ ?_
  rotate_left
  ·show Act.put _ (some 25) _ = _
   simp only [Act.put, List.setIfInBounds_toArray, List.set_cons_zero, List.set_cons_succ, i64_w, i32_w]
   rfl
  refine one_ (i := 17) (N := some 28) #[true, true, true, true, true, true, true, true, true, true, true, true, true, true, true, true, true, true, true, true, false, true, true, false, false, false, false] rfl rfl (one_of HT_.out (by kernel_rfl)) (by decide) (fun K hK => ?_)
  refine goes_ Try.func70 (by kernel_rfl) rfl #[.slice A0_6 l0_6.length c0_6] (by rfl) rfl rfl (by (try simp only [List.map_toArray, List.map_cons, List.map_nil]); first | done | rfl | (simp only [List.length_drop, List.length_take]; rfl)) ?_
  with_reducible refine (slices_Clone_span.calls _ _ l0_6 t109 _ ?side1 ?side2 A7.out).mono ?_
  (case side1 => repeat (first | exact (Kd.C_below HR0_6.out HB.out) | (with_reducible refine Kd.C_alloc ?_ _) | (with_reducible refine Kd.C_drewN ?_ _) | (with_reducible refine Kd.C_drew ?_)))
  (case side2 => exact HC0_6.out)
  rintro e w17 ⟨v110, rfl, ho0, hb⟩
  refine ⟨_, rfl, ?_⟩
  have n0_ := Aside0.mk (Kd.R_elder' (by (with_reducible repeat (first | apply Kd.R_alloc | apply Kd.R_drewN | apply Kd.R_drew)); exact HO108.out) (Kd.R_base ho0) hb)
  have n1_ := Aside0.mk (Kd.R_lower (Kd.R_new' ho0 (Kd.R_lt (by (with_reducible repeat (first | apply Kd.R_alloc | apply Kd.R_drewN | apply Kd.R_drew)); exact HO108.out))) (below_size (by repeat (first | (with_reducible first | exact HB.out | apply below_alloc | apply pw_below_drewN | apply below_drew1 | refine below_set ?_ GE101.out | refine below_set ?_ GE102.out) | exact HB.out))))
  have n2_ := Aside0.mk (blk_below (g := gb101) (o := .cells #[.int .i64 a0_0, .int .u64 a0_1, .int .u64 a0_2, .int .u64 a0_3, .int .u64 a0_4, .slice A0_5 l0_5.length c0_5, .slice A0_6 l0_6.length c0_6, .slice A0_7 l0_7.length c0_7, .slice A0_8 l0_8.length c0_8] 26 (0, 0)) (by (with_reducible repeat (first | refine blk_drewN ?_ _ | refine blk_drew ?_ | refine blk_alloc ?_ _)); exact BK101.out) hb)
  have n3_ := Aside0.mk (blk_below (g := gb102) (o := .cells #[.int .i64 0, .int .u64 0, .int .u64 0, .int .u64 0, .int .u64 0, .slice none 0 0, .slice none 0 0, .slice none 0 0, .slice none 0 0] 53 (0, 0)) (by (with_reducible repeat (first | refine blk_drewN ?_ _ | refine blk_drew ?_ | refine blk_alloc ?_ _)); exact BK102.out) hb)
  have n4_ := Aside0.mk (below_step (by repeat (first | (with_reducible first | exact HB.out | apply below_alloc | apply pw_below_drewN | apply below_drew1 | refine below_set ?_ GE101.out | refine below_set ?_ GE102.out) | exact HB.out)) hb)
  clear HO108
  clear BK101
  clear BK102
  clear HB
  have HO108 := n0_
  have HO111 := n1_
  have BK101 := n2_
  have BK102 := n3_
  have HB := n4_
  clear n0_ n1_ n2_ n3_ n4_
  (try clear hb)
  (try clear hb2)
  (try clear hk)
  (try clear hi)
  (try clear ho0)
  refine hK.out _ _ ⟨(blk_cell BK101.out 0).trans rfl, (blk_cell BK101.out 1).trans rfl, (blk_cell BK101.out 2).trans rfl, (blk_cell BK101.out 3).trans rfl, (blk_cell BK101.out 4).trans rfl, (blk_cell BK101.out 5).trans rfl, (blk_cell BK101.out 6).trans rfl, (blk_cell BK101.out 7).trans rfl, (blk_cell BK101.out 8).trans rfl⟩ (fun hHeld => ?_)
  clear hK K
  refine norm_ (a' := ?_) ?_ ?_
  rotate_left
  ·show Act.put _ (some 28) _ = _
   simp only [Act.put, List.setIfInBounds_toArray, List.set_cons_zero, List.set_cons_succ, i64_w, i32_w]
   rfl
  refine one_ (i := 20) (N := some 31) #[true, true, true, true, true, true, true, true, true, true, true, true, true, true, true, true, true, true, true, true, true, true, true, false, false, false, false] rfl rfl (one_of HT_.out (by kernel_rfl)) (by decide) (fun K hK => ?_)
  refine goes_ Try.func71 (by kernel_rfl) rfl #[.slice A0_7 l0_7.length c0_7] (by rfl) rfl rfl (by (try simp only [List.map_toArray, List.map_cons, List.map_nil]); first | done | rfl | (simp only [List.length_drop, List.length_take]; rfl)) ?_
  with_reducible refine (fhist_floats.calls _ _ l0_7 t112 _ ?side1 ?side2 A8.out).mono ?_
  (case side1 => repeat (first | exact (Kd.C_below HR0_7.out HB.out) | (with_reducible refine Kd.C_alloc ?_ _) | (with_reducible refine Kd.C_drewN ?_ _) | (with_reducible refine Kd.C_drew ?_)))
  (case side2 => exact HC0_7.out)
  rintro e w18 ⟨v113, rfl, ho0, hb⟩
  refine ⟨_, rfl, ?_⟩
  have n0_ := Aside0.mk (Kd.R_below (by (with_reducible repeat (first | apply Kd.R_alloc | apply Kd.R_drewN | apply Kd.R_drew)); exact HO108.out) hb)
  have n1_ := Aside0.mk (Kd.R_below (by (with_reducible repeat (first | apply Kd.R_alloc | apply Kd.R_drewN | apply Kd.R_drew)); exact HO111.out) hb)
  have n2_ := Aside0.mk (Kd.R_lower ho0 (below_size (by repeat (first | (with_reducible first | exact HB.out | apply below_alloc | apply pw_below_drewN | apply below_drew1 | refine below_set ?_ GE101.out | refine below_set ?_ GE102.out) | exact HB.out))))
  have n3_ := Aside0.mk (blk_below (g := gb101) (o := .cells #[.int .i64 a0_0, .int .u64 a0_1, .int .u64 a0_2, .int .u64 a0_3, .int .u64 a0_4, .slice A0_5 l0_5.length c0_5, .slice A0_6 l0_6.length c0_6, .slice A0_7 l0_7.length c0_7, .slice A0_8 l0_8.length c0_8] 26 (0, 0)) (by (with_reducible repeat (first | refine blk_drewN ?_ _ | refine blk_drew ?_ | refine blk_alloc ?_ _)); exact BK101.out) hb)
  have n4_ := Aside0.mk (blk_below (g := gb102) (o := .cells #[.int .i64 0, .int .u64 0, .int .u64 0, .int .u64 0, .int .u64 0, .slice none 0 0, .slice none 0 0, .slice none 0 0, .slice none 0 0] 53 (0, 0)) (by (with_reducible repeat (first | refine blk_drewN ?_ _ | refine blk_drew ?_ | refine blk_alloc ?_ _)); exact BK102.out) hb)
  have n5_ := Aside0.mk (below_step (by repeat (first | (with_reducible first | exact HB.out | apply below_alloc | apply pw_below_drewN | apply below_drew1 | refine below_set ?_ GE101.out | refine below_set ?_ GE102.out) | exact HB.out)) hb)
  clear HO108
  clear HO111
  clear BK101
  clear BK102
  clear HB
  have HO108 := n0_
  have HO111 := n1_
  have HO114 := n2_
  have BK101 := n3_
  have BK102 := n4_
  have HB := n5_
  clear n0_ n1_ n2_ n3_ n4_ n5_
  (try clear hb)
  (try clear hb2)
  (try clear hk)
  (try clear hi)
  (try clear ho0)
  refine hK.out _ _ ⟨(blk_cell BK101.out 0).trans rfl, (blk_cell BK101.out 1).trans rfl, (blk_cell BK101.out 2).trans rfl, (blk_cell BK101.out 3).trans rfl, (blk_cell BK101.out 4).trans rfl, (blk_cell BK101.out 5).trans rfl, (blk_cell BK101.out 6).trans rfl, (blk_cell BK101.out 7).trans rfl, (blk_cell BK101.out 8).trans rfl⟩ (fun hHeld => ?_)
  clear hK K
  refine norm_ (a' := ?_) ?_ ?_
  rotate_left
  ·show Act.put _ (some 31) _ = _
   simp only [Act.put, List.setIfInBounds_toArray, List.set_cons_zero, List.set_cons_succ, i64_w, i32_w]
   rfl
  refine one_ (i := 23) (N := some 34) #[true, true, true, true, true, true, true, true, true, true, true, true, true, true, true, true, true, true, true, true, true, true, true, true, false, false, false] rfl rfl (one_of HT_.out (by kernel_rfl)) (by decide) (fun K hK => ?_)
  refine goes_ Try.func71 (by kernel_rfl) rfl #[.slice A0_8 l0_8.length c0_8] (by rfl) rfl rfl (by (try simp only [List.map_toArray, List.map_cons, List.map_nil]); first | done | rfl | (simp only [List.length_drop, List.length_take]; rfl)) ?_
  with_reducible refine (fhist_floats.calls _ _ l0_8 t115 _ ?side1 ?side2 A9.out).mono ?_
  (case side1 => repeat (first | exact (Kd.C_below HR0_8.out HB.out) | (with_reducible refine Kd.C_alloc ?_ _) | (with_reducible refine Kd.C_drewN ?_ _) | (with_reducible refine Kd.C_drew ?_)))
  (case side2 => exact HC0_8.out)
  rintro e w19 ⟨v116, rfl, ho0, hb⟩
  refine ⟨_, rfl, ?_⟩
  have n0_ := Aside0.mk (Kd.R_below (by (with_reducible repeat (first | apply Kd.R_alloc | apply Kd.R_drewN | apply Kd.R_drew)); exact HO108.out) hb)
  have n1_ := Aside0.mk (Kd.R_below (by (with_reducible repeat (first | apply Kd.R_alloc | apply Kd.R_drewN | apply Kd.R_drew)); exact HO111.out) hb)
  have n2_ := Aside0.mk (Kd.R_elder' (by (with_reducible repeat (first | apply Kd.R_alloc | apply Kd.R_drewN | apply Kd.R_drew)); exact HO114.out) (Kd.R_base ho0) hb)
  have n3_ := Aside0.mk (Kd.R_lower (Kd.R_new' ho0 (Kd.R_lt (by (with_reducible repeat (first | apply Kd.R_alloc | apply Kd.R_drewN | apply Kd.R_drew)); exact HO114.out))) (below_size (by repeat (first | (with_reducible first | exact HB.out | apply below_alloc | apply pw_below_drewN | apply below_drew1 | refine below_set ?_ GE101.out | refine below_set ?_ GE102.out) | exact HB.out))))
  have n4_ := Aside0.mk (blk_below (g := gb101) (o := .cells #[.int .i64 a0_0, .int .u64 a0_1, .int .u64 a0_2, .int .u64 a0_3, .int .u64 a0_4, .slice A0_5 l0_5.length c0_5, .slice A0_6 l0_6.length c0_6, .slice A0_7 l0_7.length c0_7, .slice A0_8 l0_8.length c0_8] 26 (0, 0)) (by (with_reducible repeat (first | refine blk_drewN ?_ _ | refine blk_drew ?_ | refine blk_alloc ?_ _)); exact BK101.out) hb)
  have n5_ := Aside0.mk (blk_below (g := gb102) (o := .cells #[.int .i64 0, .int .u64 0, .int .u64 0, .int .u64 0, .int .u64 0, .slice none 0 0, .slice none 0 0, .slice none 0 0, .slice none 0 0] 53 (0, 0)) (by (with_reducible repeat (first | refine blk_drewN ?_ _ | refine blk_drew ?_ | refine blk_alloc ?_ _)); exact BK102.out) hb)
  have n6_ := Aside0.mk (below_step (by repeat (first | (with_reducible first | exact HB.out | apply below_alloc | apply pw_below_drewN | apply below_drew1 | refine below_set ?_ GE101.out | refine below_set ?_ GE102.out) | exact HB.out)) hb)
  clear HO108
  clear HO111
  clear HO114
  clear BK101
  clear BK102
  clear HB
  have HO108 := n0_
  have HO111 := n1_
  have HO114 := n2_
  have HO117 := n3_
  have BK101 := n4_
  have BK102 := n5_
  have HB := n6_
  clear n0_ n1_ n2_ n3_ n4_ n5_ n6_
  (try clear hb)
  (try clear hb2)
  (try clear hk)
  (try clear hi)
  (try clear ho0)
  obtain ⟨Ao20, co20, eo20⟩ := Kd.R_slice HO117.out
  (first | subst eo20 | (injection eo20 with f1_ f2_ f3_; have f4_ := f1_.symm; have f5_ := f3_.symm; clear f1_ f2_ f3_; subst f4_; subst f5_))
  obtain ⟨Ao21, co21, eo21⟩ := Kd.R_slice HO114.out
  (first | subst eo21 | (injection eo21 with f1_ f2_ f3_; have f4_ := f1_.symm; have f5_ := f3_.symm; clear f1_ f2_ f3_; subst f4_; subst f5_))
  obtain ⟨Ao22, co22, eo22⟩ := Kd.R_slice HO111.out
  (first | subst eo22 | (injection eo22 with f1_ f2_ f3_; have f4_ := f1_.symm; have f5_ := f3_.symm; clear f1_ f2_ f3_; subst f4_; subst f5_))
  obtain ⟨Ao23, co23, eo23⟩ := Kd.R_slice HO108.out
  (first | subst eo23 | (injection eo23 with f1_ f2_ f3_; have f4_ := f1_.symm; have f5_ := f3_.symm; clear f1_ f2_ f3_; subst f4_; subst f5_))
  refine hK.out _ _ ⟨(blk_cell BK101.out 0).trans rfl, (blk_cell BK101.out 1).trans rfl, (blk_cell BK101.out 2).trans rfl, (blk_cell BK101.out 3).trans rfl, (blk_cell BK101.out 4).trans rfl, (blk_cell BK101.out 5).trans rfl, (blk_cell BK101.out 6).trans rfl, (blk_cell BK101.out 7).trans rfl, (blk_cell BK101.out 8).trans rfl⟩ (fun hHeld => ?_)
  clear hK K
  refine norm_ (a' := ?_) ?_ ?_
  rotate_left
  ·show Act.put _ (some 34) _ = _
   simp only [Act.put, List.setIfInBounds_toArray, List.set_cons_zero, List.set_cons_succ, i64_w, i32_w]
   rfl
  refine pure_ (i := 24) (N := some 35) (v := ?_) (a' := ?_) #[true, true, true, true, true, true, true, true, true, true, true, true, true, true, true, true, true, true, true, true, true, true, true, true, true, false, false] rfl rfl (any_of HT_.out (by kernel_rfl)) (fun _ _ _ h => h) (Or.inl ⟨by rfl, ?_⟩) ?_ ?_
  rotate_left
  ·intro w'
   go_simp
   with_reducible rfl
  rotate_left
  ·simp only [Act.put, List.setIfInBounds_toArray, List.set_cons_zero, List.set_cons_succ, i64_w, i32_w]
   rfl
  refine one_ (i := 25) (N := none) #[true, true, true, true, true, true, true, true, true, true, true, true, true, true, true, true, true, true, true, true, true, true, true, true, true, true, false] rfl rfl (one_of HT_.out (by kernel_rfl)) (by decide) (fun K hK => ?_)
  have hs24 : w19.cell? ⟨gb102, 0, none⟩ = some (.int .i64 0) := (blk_cell BK102.out 0).trans rfl
  have hfs24 := blk_frozen BK102.out 0
  have hns24_0 := NB101_102.out
  have hms24_0 := NB102_101.out
  have hs25 : w19.cell? ⟨gb102, 1, none⟩ = some (.int .u64 0) := (blk_cell BK102.out 1).trans rfl
  have hfs25 := blk_frozen BK102.out 1
  have hns25_0 := NB101_102.out
  have hms25_0 := NB102_101.out
  have hs26 : w19.cell? ⟨gb102, 2, none⟩ = some (.int .u64 0) := (blk_cell BK102.out 2).trans rfl
  have hfs26 := blk_frozen BK102.out 2
  have hns26_0 := NB101_102.out
  have hms26_0 := NB102_101.out
  have hs27 : w19.cell? ⟨gb102, 3, none⟩ = some (.int .u64 0) := (blk_cell BK102.out 3).trans rfl
  have hfs27 := blk_frozen BK102.out 3
  have hns27_0 := NB101_102.out
  have hms27_0 := NB102_101.out
  have hs28 : w19.cell? ⟨gb102, 4, none⟩ = some (.int .u64 0) := (blk_cell BK102.out 4).trans rfl
  have hfs28 := blk_frozen BK102.out 4
  have hns28_0 := NB101_102.out
  have hms28_0 := NB102_101.out
  have hs29 : w19.cell? ⟨gb102, 5, none⟩ = some (.slice none 0 0) := (blk_cell BK102.out 5).trans rfl
  have hfs29 := blk_frozen BK102.out 5
  have hns29_0 := NB101_102.out
  have hms29_0 := NB102_101.out
  have hs30 : w19.cell? ⟨gb102, 6, none⟩ = some (.slice none 0 0) := (blk_cell BK102.out 6).trans rfl
  have hfs30 := blk_frozen BK102.out 6
  have hns30_0 := NB101_102.out
  have hms30_0 := NB102_101.out
  have hs31 : w19.cell? ⟨gb102, 7, none⟩ = some (.slice none 0 0) := (blk_cell BK102.out 7).trans rfl
  have hfs31 := blk_frozen BK102.out 7
  have hns31_0 := NB101_102.out
  have hms31_0 := NB102_101.out
  have hs32 : w19.cell? ⟨gb102, 8, none⟩ = some (.slice none 0 0) := (blk_cell BK102.out 8).trans rfl
  have hfs32 := blk_frozen BK102.out 8
  have hns32_0 := NB101_102.out
  have hms32_0 := NB102_101.out
  refine skip_ (w1 := ?_) (by rfl) rfl ?_ ?_
  rotate_left
  ·go_simp
   rfl
  refine hK.out _ _ ⟨((cell_far (p := ⟨gb102, _, none⟩) NB101_102.out _).trans (((cell_far (p := ⟨gb102, _, none⟩) NB101_102.out _).trans (((cell_far (p := ⟨gb102, _, none⟩) NB101_102.out _).trans (((cell_far (p := ⟨gb102, _, none⟩) NB101_102.out _).trans (((cell_far (p := ⟨gb102, _, none⟩) NB101_102.out _).trans (((cell_far (p := ⟨gb102, _, none⟩) NB101_102.out _).trans (((cell_far (p := ⟨gb102, _, none⟩) NB101_102.out _).trans (((cell_far (p := ⟨gb102, _, none⟩) NB101_102.out _).trans (((cell_far (p := ⟨gb102, _, none⟩) NB101_102.out _).trans (hHeld.1)))))))))))))))))), ((cell_far (p := ⟨gb102, _, none⟩) NB101_102.out _).trans (((cell_far (p := ⟨gb102, _, none⟩) NB101_102.out _).trans (((cell_far (p := ⟨gb102, _, none⟩) NB101_102.out _).trans (((cell_far (p := ⟨gb102, _, none⟩) NB101_102.out _).trans (((cell_far (p := ⟨gb102, _, none⟩) NB101_102.out _).trans (((cell_far (p := ⟨gb102, _, none⟩) NB101_102.out _).trans (((cell_far (p := ⟨gb102, _, none⟩) NB101_102.out _).trans (((cell_far (p := ⟨gb102, _, none⟩) NB101_102.out _).trans (((cell_far (p := ⟨gb102, _, none⟩) NB101_102.out _).trans (hHeld.2.1)))))))))))))))))), ((cell_far (p := ⟨gb102, _, none⟩) NB101_102.out _).trans (((cell_far (p := ⟨gb102, _, none⟩) NB101_102.out _).trans (((cell_far (p := ⟨gb102, _, none⟩) NB101_102.out _).trans (((cell_far (p := ⟨gb102, _, none⟩) NB101_102.out _).trans (((cell_far (p := ⟨gb102, _, none⟩) NB101_102.out _).trans (((cell_far (p := ⟨gb102, _, none⟩) NB101_102.out _).trans (((cell_far (p := ⟨gb102, _, none⟩) NB101_102.out _).trans (((cell_far (p := ⟨gb102, _, none⟩) NB101_102.out _).trans (((cell_far (p := ⟨gb102, _, none⟩) NB101_102.out _).trans (hHeld.2.2.1)))))))))))))))))), ((cell_far (p := ⟨gb102, _, none⟩) NB101_102.out _).trans (((cell_far (p := ⟨gb102, _, none⟩) NB101_102.out _).trans (((cell_far (p := ⟨gb102, _, none⟩) NB101_102.out _).trans (((cell_far (p := ⟨gb102, _, none⟩) NB101_102.out _).trans (((cell_far (p := ⟨gb102, _, none⟩) NB101_102.out _).trans (((cell_far (p := ⟨gb102, _, none⟩) NB101_102.out _).trans (((cell_far (p := ⟨gb102, _, none⟩) NB101_102.out _).trans (((cell_far (p := ⟨gb102, _, none⟩) NB101_102.out _).trans (((cell_far (p := ⟨gb102, _, none⟩) NB101_102.out _).trans (hHeld.2.2.2.1)))))))))))))))))), ((cell_far (p := ⟨gb102, _, none⟩) NB101_102.out _).trans (((cell_far (p := ⟨gb102, _, none⟩) NB101_102.out _).trans (((cell_far (p := ⟨gb102, _, none⟩) NB101_102.out _).trans (((cell_far (p := ⟨gb102, _, none⟩) NB101_102.out _).trans (((cell_far (p := ⟨gb102, _, none⟩) NB101_102.out _).trans (((cell_far (p := ⟨gb102, _, none⟩) NB101_102.out _).trans (((cell_far (p := ⟨gb102, _, none⟩) NB101_102.out _).trans (((cell_far (p := ⟨gb102, _, none⟩) NB101_102.out _).trans (((cell_far (p := ⟨gb102, _, none⟩) NB101_102.out _).trans (hHeld.2.2.2.2.1)))))))))))))))))), ((cell_far (p := ⟨gb102, _, none⟩) NB101_102.out _).trans (((cell_far (p := ⟨gb102, _, none⟩) NB101_102.out _).trans (((cell_far (p := ⟨gb102, _, none⟩) NB101_102.out _).trans (((cell_far (p := ⟨gb102, _, none⟩) NB101_102.out _).trans (((cell_far (p := ⟨gb102, _, none⟩) NB101_102.out _).trans (((cell_far (p := ⟨gb102, _, none⟩) NB101_102.out _).trans (((cell_far (p := ⟨gb102, _, none⟩) NB101_102.out _).trans (((cell_far (p := ⟨gb102, _, none⟩) NB101_102.out _).trans (((cell_far (p := ⟨gb102, _, none⟩) NB101_102.out _).trans (hHeld.2.2.2.2.2.1)))))))))))))))))), ((cell_far (p := ⟨gb102, _, none⟩) NB101_102.out _).trans (((cell_far (p := ⟨gb102, _, none⟩) NB101_102.out _).trans (((cell_far (p := ⟨gb102, _, none⟩) NB101_102.out _).trans (((cell_far (p := ⟨gb102, _, none⟩) NB101_102.out _).trans (((cell_far (p := ⟨gb102, _, none⟩) NB101_102.out _).trans (((cell_far (p := ⟨gb102, _, none⟩) NB101_102.out _).trans (((cell_far (p := ⟨gb102, _, none⟩) NB101_102.out _).trans (((cell_far (p := ⟨gb102, _, none⟩) NB101_102.out _).trans (((cell_far (p := ⟨gb102, _, none⟩) NB101_102.out _).trans (hHeld.2.2.2.2.2.2.1)))))))))))))))))), ((cell_far (p := ⟨gb102, _, none⟩) NB101_102.out _).trans (((cell_far (p := ⟨gb102, _, none⟩) NB101_102.out _).trans (((cell_far (p := ⟨gb102, _, none⟩) NB101_102.out _).trans (((cell_far (p := ⟨gb102, _, none⟩) NB101_102.out _).trans (((cell_far (p := ⟨gb102, _, none⟩) NB101_102.out _).trans (((cell_far (p := ⟨gb102, _, none⟩) NB101_102.out _).trans (((cell_far (p := ⟨gb102, _, none⟩) NB101_102.out _).trans (((cell_far (p := ⟨gb102, _, none⟩) NB101_102.out _).trans (((cell_far (p := ⟨gb102, _, none⟩) NB101_102.out _).trans (hHeld.2.2.2.2.2.2.2.1)))))))))))))))))), ((cell_far (p := ⟨gb102, _, none⟩) NB101_102.out _).trans (((cell_far (p := ⟨gb102, _, none⟩) NB101_102.out _).trans (((cell_far (p := ⟨gb102, _, none⟩) NB101_102.out _).trans (((cell_far (p := ⟨gb102, _, none⟩) NB101_102.out _).trans (((cell_far (p := ⟨gb102, _, none⟩) NB101_102.out _).trans (((cell_far (p := ⟨gb102, _, none⟩) NB101_102.out _).trans (((cell_far (p := ⟨gb102, _, none⟩) NB101_102.out _).trans (((cell_far (p := ⟨gb102, _, none⟩) NB101_102.out _).trans (((cell_far (p := ⟨gb102, _, none⟩) NB101_102.out _).trans (hHeld.2.2.2.2.2.2.2.2))))))))))))))))))⟩ (fun hHeld => ?_)
  clear hK K
  refine pure_ (i := 26) (N := some 3) (v := ?_) (a' := ?_) #[true, true, true, true, true, true, true, true, true, true, true, true, true, true, true, true, true, true, true, true, true, true, true, true, true, true, true] rfl rfl (any_of HT_.out (by kernel_rfl)) (fun _ _ _ h => h) (Or.inl ⟨by rfl, ?_⟩) ?_ ?_
  rotate_left
  ·intro w'
   go_simp
   with_reducible rfl
  rotate_left
  ·simp only [Act.put, List.setIfInBounds_toArray, List.set_cons_zero, List.set_cons_succ, i64_w, i32_w]
   rfl
  refine done_ (done_of HT_.out (by kernel_rfl)) ?_
  try go_wp2
  refine bodyPost_ret (results_ct rfl _ _ gb102 53 #[.int .i64 a0_0, .int .u64 a0_1, .int .u64 t104, .int .u64 t105, .int .u64 a0_4, .slice Ao23 t106.length co23, .slice Ao22 t109.length co22, .slice Ao21 t112.length co21, .slice Ao20 t115.length co20] (0, 0) _ rfl (by (with_reducible repeat (first | refine blk_drewN ?_ _ | refine blk_drew ?_ | refine blk_alloc ?_ _)); refine blk_put (cs := #[.int .i64 a0_0, .int .u64 a0_1, .int .u64 t104, .int .u64 t105, .int .u64 a0_4, .slice Ao23 t106.length co23, .slice Ao22 t109.length co22, .slice Ao21 t112.length co21, .slice none 0 0]) ?_ 8 _ rfl; (with_reducible repeat (first | refine blk_drewN ?_ _ | refine blk_drew ?_ | refine blk_alloc ?_ _)); refine blk_put (cs := #[.int .i64 a0_0, .int .u64 a0_1, .int .u64 t104, .int .u64 t105, .int .u64 a0_4, .slice Ao23 t106.length co23, .slice Ao22 t109.length co22, .slice none 0 0, .slice none 0 0]) ?_ 7 _ rfl; (with_reducible repeat (first | refine blk_drewN ?_ _ | refine blk_drew ?_ | refine blk_alloc ?_ _)); refine blk_put (cs := #[.int .i64 a0_0, .int .u64 a0_1, .int .u64 t104, .int .u64 t105, .int .u64 a0_4, .slice Ao23 t106.length co23, .slice none 0 0, .slice none 0 0, .slice none 0 0]) ?_ 6 _ rfl; (with_reducible repeat (first | refine blk_drewN ?_ _ | refine blk_drew ?_ | refine blk_alloc ?_ _)); refine blk_put (cs := #[.int .i64 a0_0, .int .u64 a0_1, .int .u64 t104, .int .u64 t105, .int .u64 a0_4, .slice none 0 0, .slice none 0 0, .slice none 0 0, .slice none 0 0]) ?_ 5 _ rfl; (with_reducible repeat (first | refine blk_drewN ?_ _ | refine blk_drew ?_ | refine blk_alloc ?_ _)); refine blk_put (cs := #[.int .i64 a0_0, .int .u64 a0_1, .int .u64 t104, .int .u64 t105, .int .u64 0, .slice none 0 0, .slice none 0 0, .slice none 0 0, .slice none 0 0]) ?_ 4 _ rfl; (with_reducible repeat (first | refine blk_drewN ?_ _ | refine blk_drew ?_ | refine blk_alloc ?_ _)); refine blk_put (cs := #[.int .i64 a0_0, .int .u64 a0_1, .int .u64 t104, .int .u64 0, .int .u64 0, .slice none 0 0, .slice none 0 0, .slice none 0 0, .slice none 0 0]) ?_ 3 _ rfl; (with_reducible repeat (first | refine blk_drewN ?_ _ | refine blk_drew ?_ | refine blk_alloc ?_ _)); refine blk_put (cs := #[.int .i64 a0_0, .int .u64 a0_1, .int .u64 0, .int .u64 0, .int .u64 0, .slice none 0 0, .slice none 0 0, .slice none 0 0, .slice none 0 0]) ?_ 2 _ rfl; (with_reducible repeat (first | refine blk_drewN ?_ _ | refine blk_drew ?_ | refine blk_alloc ?_ _)); refine blk_put (cs := #[.int .i64 a0_0, .int .u64 0, .int .u64 0, .int .u64 0, .int .u64 0, .slice none 0 0, .slice none 0 0, .slice none 0 0, .slice none 0 0]) ?_ 1 _ rfl; (with_reducible repeat (first | refine blk_drewN ?_ _ | refine blk_drew ?_ | refine blk_alloc ?_ _)); refine blk_put (cs := #[.int .i64 0, .int .u64 0, .int .u64 0, .int .u64 0, .int .u64 0, .slice none 0 0, .slice none 0 0, .slice none 0 0, .slice none 0 0]) ?_ 0 _ rfl; (with_reducible repeat (first | refine blk_drewN ?_ _ | refine blk_drew ?_ | refine blk_alloc ?_ _)); exact BK102.out) Try.underlying53 rfl (by kernel_rfl)) rfl ?_
  exact ⟨_, _, _, _, by first | rfl | (simp [errW_none, errW_some] <;> rfl) | (simp [*, errW_none, errW_some] <;> rfl), by (with_reducible repeat (first | apply Kd.R_alloc | apply Kd.R_drewN | apply Kd.R_drew)); exact Kd.R_mono (Kd.R_far (p := ⟨gb102, 8, none⟩) (Kd.R_far (p := ⟨gb102, 7, none⟩) (Kd.R_far (p := ⟨gb102, 6, none⟩) (Kd.R_far (p := ⟨gb102, 5, none⟩) (Kd.R_far (p := ⟨gb102, 4, none⟩) (Kd.R_far (p := ⟨gb102, 3, none⟩) (Kd.R_far (p := ⟨gb102, 2, none⟩) (Kd.R_far (p := ⟨gb102, 1, none⟩) (Kd.R_far (p := ⟨gb102, 0, none⟩) (Kd.R_types HO108.out BK102.out (by decide)) (fun _ hk => hk.2) (.int .i64 a0_0)) (fun _ hk => hk.2) (.int .u64 a0_1)) (fun _ hk => hk.2) (.int .u64 t104)) (fun _ hk => hk.2) (.int .u64 t105)) (fun _ hk => hk.2) (.int .u64 a0_4)) (fun _ hk => hk.2) (.slice Ao23 t106.length co23)) (fun _ hk => hk.2) (.slice Ao22 t109.length co22)) (fun _ hk => hk.2) (.slice Ao21 t112.length co21)) (fun _ hk => hk.2) (.slice Ao20 t115.length co20)) (fun _ hk => hk.1.2), by (with_reducible repeat (first | apply Kd.R_alloc | apply Kd.R_drewN | apply Kd.R_drew)); exact Kd.R_mono (Kd.R_far (p := ⟨gb102, 8, none⟩) (Kd.R_far (p := ⟨gb102, 7, none⟩) (Kd.R_far (p := ⟨gb102, 6, none⟩) (Kd.R_far (p := ⟨gb102, 5, none⟩) (Kd.R_far (p := ⟨gb102, 4, none⟩) (Kd.R_far (p := ⟨gb102, 3, none⟩) (Kd.R_far (p := ⟨gb102, 2, none⟩) (Kd.R_far (p := ⟨gb102, 1, none⟩) (Kd.R_far (p := ⟨gb102, 0, none⟩) (Kd.R_types HO111.out BK102.out (by decide)) (fun _ hk => hk.2) (.int .i64 a0_0)) (fun _ hk => hk.2) (.int .u64 a0_1)) (fun _ hk => hk.2) (.int .u64 t104)) (fun _ hk => hk.2) (.int .u64 t105)) (fun _ hk => hk.2) (.int .u64 a0_4)) (fun _ hk => hk.2) (.slice Ao23 t106.length co23)) (fun _ hk => hk.2) (.slice Ao22 t109.length co22)) (fun _ hk => hk.2) (.slice Ao21 t112.length co21)) (fun _ hk => hk.2) (.slice Ao20 t115.length co20)) (fun _ hk => hk.1.2), by (with_reducible repeat (first | apply Kd.R_alloc | apply Kd.R_drewN | apply Kd.R_drew)); exact Kd.R_mono (Kd.R_far (p := ⟨gb102, 8, none⟩) (Kd.R_far (p := ⟨gb102, 7, none⟩) (Kd.R_far (p := ⟨gb102, 6, none⟩) (Kd.R_far (p := ⟨gb102, 5, none⟩) (Kd.R_far (p := ⟨gb102, 4, none⟩) (Kd.R_far (p := ⟨gb102, 3, none⟩) (Kd.R_far (p := ⟨gb102, 2, none⟩) (Kd.R_far (p := ⟨gb102, 1, none⟩) (Kd.R_far (p := ⟨gb102, 0, none⟩) (Kd.R_types HO114.out BK102.out (by decide)) (fun _ hk => hk.2) (.int .i64 a0_0)) (fun _ hk => hk.2) (.int .u64 a0_1)) (fun _ hk => hk.2) (.int .u64 t104)) (fun _ hk => hk.2) (.int .u64 t105)) (fun _ hk => hk.2) (.int .u64 a0_4)) (fun _ hk => hk.2) (.slice Ao23 t106.length co23)) (fun _ hk => hk.2) (.slice Ao22 t109.length co22)) (fun _ hk => hk.2) (.slice Ao21 t112.length co21)) (fun _ hk => hk.2) (.slice Ao20 t115.length co20)) (fun _ hk => hk.1.2), by (with_reducible repeat (first | apply Kd.R_alloc | apply Kd.R_drewN | apply Kd.R_drew)); exact Kd.R_mono (Kd.R_far (p := ⟨gb102, 8, none⟩) (Kd.R_far (p := ⟨gb102, 7, none⟩) (Kd.R_far (p := ⟨gb102, 6, none⟩) (Kd.R_far (p := ⟨gb102, 5, none⟩) (Kd.R_far (p := ⟨gb102, 4, none⟩) (Kd.R_far (p := ⟨gb102, 3, none⟩) (Kd.R_far (p := ⟨gb102, 2, none⟩) (Kd.R_far (p := ⟨gb102, 1, none⟩) (Kd.R_far (p := ⟨gb102, 0, none⟩) (Kd.R_types HO117.out BK102.out (by decide)) (fun _ hk => hk.2) (.int .i64 a0_0)) (fun _ hk => hk.2) (.int .u64 a0_1)) (fun _ hk => hk.2) (.int .u64 t104)) (fun _ hk => hk.2) (.int .u64 t105)) (fun _ hk => hk.2) (.int .u64 a0_4)) (fun _ hk => hk.2) (.slice Ao23 t106.length co23)) (fun _ hk => hk.2) (.slice Ao22 t109.length co22)) (fun _ hk => hk.2) (.slice Ao21 t112.length co21)) (fun _ hk => hk.2) (.slice Ao20 t115.length co20)) (fun _ hk => hk.1.2), by repeat (first | (with_reducible first | exact HB.out | apply below_alloc | apply pw_below_drewN | apply below_drew1 | refine below_set ?_ GE101.out | refine below_set ?_ GE102.out) | exact HB.out)⟩
 ·rw [if_neg c3] at H
  have c3b0 : (t103 == 0) = false := beq_eq_false_iff_ne.mpr c3
  have c3b1 : (t103 != 0) = true := bne_iff_ne.mpr c3
  simp only [Option.some.injEq, Prod.mk.injEq] at H
  obtain ⟨rfl, rfl, rfl, rfl, rfl, rfl, rfl, rfl, rfl, rfl⟩ := H
  go_enter Try.func25, Try.ntmps25
  go_wp2_with (first | ((with_reducible refine gate_dst (N := 1) rfl ?_); refine box_event ?hg (N := 1) ?hd (cs := #[.int .i64 a0_0, .int .u64 a0_1, .int .u64 a0_2, .int .u64 a0_3, .int .u64 a0_4, .slice A0_5 l0_5.length c0_5, .slice A0_6 l0_6.length c0_6, .slice A0_7 l0_7.length c0_7, .slice A0_8 l0_8.length c0_8]) (t := 26) ?hr ?_; (case hd => rfl); (case hg => rfl); (case hr => first | (go_simp; done) | (go_simp; rfl)); intro gb101 hg w33 hbox hb; have n0_ := Aside0.mk (below_step (by repeat (first | (with_reducible first | exact HB.out | apply below_alloc | apply pw_below_drewN | apply below_drew1) | exact HB.out)) hb); have n1_ := Aside0.mk (hbox); have n2_ := Aside0.mk ((by rw [hg]; exact (below_size (by repeat (first | (with_reducible first | exact HB.out | apply below_alloc | apply pw_below_drewN | apply below_drew1) | exact HB.out))) : w.heap.size ≤ gb101)); have n3_ := Aside0.mk ((by rw [hg]; exact (below_size (by repeat (first | (with_reducible first | exact HB.out | apply below_alloc | apply pw_below_drewN | apply below_drew1) | exact HB.out))) : w.heap.size ≤ gb101)); clear HB; have HB := n0_; have BK101 := n1_; have GW101 := n2_; have GE101 := n3_; clear n0_ n1_ n2_ n3_; clear hb hbox hg) | ((with_reducible refine gate_dst (N := 2) rfl ?_); refine box_event ?hg (N := 2) ?hd (cs := #[.int .i64 0, .int .u64 0, .int .u64 0, .int .u64 0, .int .u64 0, .slice none 0 0, .slice none 0 0, .slice none 0 0, .slice none 0 0]) (t := 53) ?hr ?_; (case hd => rfl); (case hg => rfl); (case hr => first | (go_simp; done) | (go_simp; rfl)); intro gb102 hg w34 hbox hb; have n0_ := Aside0.mk (blk_below (g := gb101) (o := .cells #[.int .i64 a0_0, .int .u64 a0_1, .int .u64 a0_2, .int .u64 a0_3, .int .u64 a0_4, .slice A0_5 l0_5.length c0_5, .slice A0_6 l0_6.length c0_6, .slice A0_7 l0_7.length c0_7, .slice A0_8 l0_8.length c0_8] 26 (0, 0)) (by (with_reducible repeat (first | refine blk_drewN ?_ _ | refine blk_drew ?_ | refine blk_alloc ?_ _)); exact BK101.out) hb); have n1_ := Aside0.mk (below_step (by repeat (first | (with_reducible first | exact HB.out | apply below_alloc | apply pw_below_drewN | apply below_drew1 | refine below_set ?_ GE101.out) | exact HB.out)) hb); have n2_ := Aside0.mk (hbox); have n3_ := Aside0.mk ((by rw [hg]; exact (below_size (by repeat (first | (with_reducible first | exact HB.out | apply below_alloc | apply pw_below_drewN | apply below_drew1 | refine below_set ?_ GE101.out) | exact HB.out))) : w.heap.size ≤ gb102)); have n4_ := Aside0.mk ((by rw [hg]; exact (below_size (by repeat (first | (with_reducible first | exact HB.out | apply below_alloc | apply pw_below_drewN | apply below_drew1 | refine below_set ?_ GE101.out) | exact HB.out))) : w.heap.size ≤ gb102)); have n5_ := Aside0.mk ((by rw [hg]; exact Nat.ne_of_lt (blk_lt (g := gb101) (o := .cells #[.int .i64 a0_0, .int .u64 a0_1, .int .u64 a0_2, .int .u64 a0_3, .int .u64 a0_4, .slice A0_5 l0_5.length c0_5, .slice A0_6 l0_6.length c0_6, .slice A0_7 l0_7.length c0_7, .slice A0_8 l0_8.length c0_8] 26 (0, 0)) (by (with_reducible repeat (first | refine blk_drewN ?_ _ | refine blk_drew ?_ | refine blk_alloc ?_ _)); exact BK101.out)) : gb101 ≠ gb102)); have n6_ := Aside0.mk ((by rw [hg]; exact Nat.ne_of_gt (blk_lt (g := gb101) (o := .cells #[.int .i64 a0_0, .int .u64 a0_1, .int .u64 a0_2, .int .u64 a0_3, .int .u64 a0_4, .slice A0_5 l0_5.length c0_5, .slice A0_6 l0_6.length c0_6, .slice A0_7 l0_7.length c0_7, .slice A0_8 l0_8.length c0_8] 26 (0, 0)) (by (with_reducible repeat (first | refine blk_drewN ?_ _ | refine blk_drew ?_ | refine blk_alloc ?_ _)); exact BK101.out)) : gb102 ≠ gb101)); clear BK101; clear HB; have BK101 := n0_; have HB := n1_; have BK102 := n2_; have GW102 := n3_; have GE102 := n4_; have NB101_102 := n5_; have NB102_101 := n6_; clear n0_ n1_ n2_ n3_ n4_ n5_ n6_; clear hb hbox hg; have hnb35 := NB101_102.out; have hnc35 := NB102_101.out; have hcz36_0 : w34.cell? ⟨gb101, 0, none⟩ = some (.int .i64 a0_0) := (blk_cell BK101.out 0).trans rfl; have hcz36_1 : w34.cell? ⟨gb101, 1, none⟩ = some (.int .u64 a0_1) := (blk_cell BK101.out 1).trans rfl; have hcz36_2 : w34.cell? ⟨gb101, 2, none⟩ = some (.int .u64 a0_2) := (blk_cell BK101.out 2).trans rfl; have hcz36_3 : w34.cell? ⟨gb101, 3, none⟩ = some (.int .u64 a0_3) := (blk_cell BK101.out 3).trans rfl; have hcz36_4 : w34.cell? ⟨gb101, 4, none⟩ = some (.int .u64 a0_4) := (blk_cell BK101.out 4).trans rfl; have hcz36_5 : w34.cell? ⟨gb101, 5, none⟩ = some (.slice A0_5 l0_5.length c0_5) := (blk_cell BK101.out 5).trans rfl; have hcz36_6 : w34.cell? ⟨gb101, 6, none⟩ = some (.slice A0_6 l0_6.length c0_6) := (blk_cell BK101.out 6).trans rfl; have hcz36_7 : w34.cell? ⟨gb101, 7, none⟩ = some (.slice A0_7 l0_7.length c0_7) := (blk_cell BK101.out 7).trans rfl; have hcz36_8 : w34.cell? ⟨gb101, 8, none⟩ = some (.slice A0_8 l0_8.length c0_8) := (blk_cell BK101.out 8).trans rfl; have hfz36_0 := blk_frozen BK101.out 0; have hfz36_1 := blk_frozen BK101.out 1; have hfz36_2 := blk_frozen BK101.out 2; have hfz36_3 := blk_frozen BK101.out 3; have hfz36_4 := blk_frozen BK101.out 4; have hfz36_5 := blk_frozen BK101.out 5; have hfz36_6 := blk_frozen BK101.out 6; have hfz36_7 := blk_frozen BK101.out 7; have hfz36_8 := blk_frozen BK101.out 8) | ((with_reducible refine gate_callee (f := 55) rfl ?_); refine goesL_ (some 6) rfl rfl Try.func55 (by kernel_rfl) rfl #[.agg #[.int .i64 a0_0, .int .u64 a0_1, .int .u64 a0_2, .int .u64 a0_3, .int .u64 a0_4, .slice A0_5 l0_5.length c0_5, .slice A0_6 l0_6.length c0_6, .slice A0_7 l0_7.length c0_7, .slice A0_8 l0_8.length c0_8]] rfl (by (try simp only [List.map_toArray, List.map_cons, List.map_nil]); first | done | rfl | (simp only [List.length_drop, List.length_take]; rfl)) ?_; (with_reducible refine (hist_Check.calls a0_0 a0_1 a0_2 a0_3 a0_4 _ _ l0_5 _ _ l0_6 _ _ l0_7 _ _ l0_8 t103 _ ?side1 ?side2 ?side3 ?side4 ?side5 ?side6 ?side7 ?side8 A2.out).mono ?_); (case side1 => repeat (first | exact (Kd.C_below HR0_5.out HB.out) | (with_reducible refine Kd.C_alloc ?_ _) | (with_reducible refine Kd.C_drewN ?_ _) | (with_reducible refine Kd.C_drew ?_))); (case side2 => exact HC0_5.out); (case side3 => repeat (first | exact (Kd.C_below HR0_6.out HB.out) | (with_reducible refine Kd.C_alloc ?_ _) | (with_reducible refine Kd.C_drewN ?_ _) | (with_reducible refine Kd.C_drew ?_))); (case side4 => exact HC0_6.out); (case side5 => repeat (first | exact (Kd.C_below HR0_7.out HB.out) | (with_reducible refine Kd.C_alloc ?_ _) | (with_reducible refine Kd.C_drewN ?_ _) | (with_reducible refine Kd.C_drew ?_))); (case side6 => exact HC0_7.out); (case side7 => repeat (first | exact (Kd.C_below HR0_8.out HB.out) | (with_reducible refine Kd.C_alloc ?_ _) | (with_reducible refine Kd.C_drewN ?_ _) | (with_reducible refine Kd.C_drew ?_))); (case side8 => exact HC0_8.out); rintro e w37 ⟨rfl, hb⟩; refine ⟨_, rfl, ?_⟩; have n0_ := Aside0.mk (blk_below (g := gb101) (o := .cells #[.int .i64 a0_0, .int .u64 a0_1, .int .u64 a0_2, .int .u64 a0_3, .int .u64 a0_4, .slice A0_5 l0_5.length c0_5, .slice A0_6 l0_6.length c0_6, .slice A0_7 l0_7.length c0_7, .slice A0_8 l0_8.length c0_8] 26 (0, 0)) (by (with_reducible repeat (first | refine blk_drewN ?_ _ | refine blk_drew ?_ | refine blk_alloc ?_ _)); exact BK101.out) hb); have n1_ := Aside0.mk (blk_below (g := gb102) (o := .cells #[.int .i64 0, .int .u64 0, .int .u64 0, .int .u64 0, .int .u64 0, .slice none 0 0, .slice none 0 0, .slice none 0 0, .slice none 0 0] 53 (0, 0)) (by (with_reducible repeat (first | refine blk_drewN ?_ _ | refine blk_drew ?_ | refine blk_alloc ?_ _)); exact BK102.out) hb); have n2_ := Aside0.mk (below_step (by repeat (first | (with_reducible first | exact HB.out | apply below_alloc | apply pw_below_drewN | apply below_drew1 | refine below_set ?_ GE101.out | refine below_set ?_ GE102.out) | exact HB.out)) hb); clear BK101; clear BK102; clear HB; have BK101 := n0_; have BK102 := n1_; have HB := n2_; clear n0_ n1_ n2_; (try clear hb); (try clear hb2); (try clear hk); (try clear hi); clear A2; have hcz38_0 : w37.cell? ⟨gb102, 0, none⟩ = some (.int .i64 0) := (blk_cell BK102.out 0).trans rfl; have hcz38_1 : w37.cell? ⟨gb102, 1, none⟩ = some (.int .u64 0) := (blk_cell BK102.out 1).trans rfl; have hcz38_2 : w37.cell? ⟨gb102, 2, none⟩ = some (.int .u64 0) := (blk_cell BK102.out 2).trans rfl; have hcz38_3 : w37.cell? ⟨gb102, 3, none⟩ = some (.int .u64 0) := (blk_cell BK102.out 3).trans rfl; have hcz38_4 : w37.cell? ⟨gb102, 4, none⟩ = some (.int .u64 0) := (blk_cell BK102.out 4).trans rfl; have hcz38_5 : w37.cell? ⟨gb102, 5, none⟩ = some (.slice none 0 0) := (blk_cell BK102.out 5).trans rfl; have hcz38_6 : w37.cell? ⟨gb102, 6, none⟩ = some (.slice none 0 0) := (blk_cell BK102.out 6).trans rfl; have hcz38_7 : w37.cell? ⟨gb102, 7, none⟩ = some (.slice none 0 0) := (blk_cell BK102.out 7).trans rfl; have hcz38_8 : w37.cell? ⟨gb102, 8, none⟩ = some (.slice none 0 0) := (blk_cell BK102.out 8).trans rfl; have hfz38_0 := blk_frozen BK102.out 0; have hfz38_1 := blk_frozen BK102.out 1; have hfz38_2 := blk_frozen BK102.out 2; have hfz38_3 := blk_frozen BK102.out 3; have hfz38_4 := blk_frozen BK102.out 4; have hfz38_5 := blk_frozen BK102.out 5; have hfz38_6 := blk_frozen BK102.out 6; have hfz38_7 := blk_frozen BK102.out 7; have hfz38_8 := blk_frozen BK102.out 8))
  refine bodyPost_ret (results_ct rfl _ _ gb102 53 #[.int .i64 0, .int .u64 0, .int .u64 0, .int .u64 0, .int .u64 0, .slice none 0 0, .slice none 0 0, .slice none 0 0, .slice none 0 0] (0, 0) _ rfl (by (with_reducible repeat (first | refine blk_drewN ?_ _ | refine blk_drew ?_ | refine blk_alloc ?_ _)); refine blk_put (cs := #[.int .i64 0, .int .u64 0, .int .u64 0, .int .u64 0, .int .u64 0, .slice none 0 0, .slice none 0 0, .slice none 0 0, .slice none 0 0]) ?_ 8 _ rfl; (with_reducible repeat (first | refine blk_drewN ?_ _ | refine blk_drew ?_ | refine blk_alloc ?_ _)); refine blk_put (cs := #[.int .i64 0, .int .u64 0, .int .u64 0, .int .u64 0, .int .u64 0, .slice none 0 0, .slice none 0 0, .slice none 0 0, .slice none 0 0]) ?_ 7 _ rfl; (with_reducible repeat (first | refine blk_drewN ?_ _ | refine blk_drew ?_ | refine blk_alloc ?_ _)); refine blk_put (cs := #[.int .i64 0, .int .u64 0, .int .u64 0, .int .u64 0, .int .u64 0, .slice none 0 0, .slice none 0 0, .slice none 0 0, .slice none 0 0]) ?_ 6 _ rfl; (with_reducible repeat (first | refine blk_drewN ?_ _ | refine blk_drew ?_ | refine blk_alloc ?_ _)); refine blk_put (cs := #[.int .i64 0, .int .u64 0, .int .u64 0, .int .u64 0, .int .u64 0, .slice none 0 0, .slice none 0 0, .slice none 0 0, .slice none 0 0]) ?_ 5 _ rfl; (with_reducible repeat (first | refine blk_drewN ?_ _ | refine blk_drew ?_ | refine blk_alloc ?_ _)); refine blk_put (cs := #[.int .i64 0, .int .u64 0, .int .u64 0, .int .u64 0, .int .u64 0, .slice none 0 0, .slice none 0 0, .slice none 0 0, .slice none 0 0]) ?_ 4 _ rfl; (with_reducible repeat (first | refine blk_drewN ?_ _ | refine blk_drew ?_ | refine blk_alloc ?_ _)); refine blk_put (cs := #[.int .i64 0, .int .u64 0, .int .u64 0, .int .u64 0, .int .u64 0, .slice none 0 0, .slice none 0 0, .slice none 0 0, .slice none 0 0]) ?_ 3 _ rfl; (with_reducible repeat (first | refine blk_drewN ?_ _ | refine blk_drew ?_ | refine blk_alloc ?_ _)); refine blk_put (cs := #[.int .i64 0, .int .u64 0, .int .u64 0, .int .u64 0, .int .u64 0, .slice none 0 0, .slice none 0 0, .slice none 0 0, .slice none 0 0]) ?_ 2 _ rfl; (with_reducible repeat (first | refine blk_drewN ?_ _ | refine blk_drew ?_ | refine blk_alloc ?_ _)); refine blk_put (cs := #[.int .i64 0, .int .u64 0, .int .u64 0, .int .u64 0, .int .u64 0, .slice none 0 0, .slice none 0 0, .slice none 0 0, .slice none 0 0]) ?_ 1 _ rfl; (with_reducible repeat (first | refine blk_drewN ?_ _ | refine blk_drew ?_ | refine blk_alloc ?_ _)); refine blk_put (cs := #[.int .i64 0, .int .u64 0, .int .u64 0, .int .u64 0, .int .u64 0, .slice none 0 0, .slice none 0 0, .slice none 0 0, .slice none 0 0]) ?_ 0 _ rfl; (with_reducible repeat (first | refine blk_drewN ?_ _ | refine blk_drew ?_ | refine blk_alloc ?_ _)); exact BK102.out) Try.underlying53 rfl (by kernel_rfl)) rfl ?_
  exact ⟨_, _, _, _, by first | rfl | (simp [errW_none, errW_some] <;> rfl) | (simp [*, errW_none, errW_some] <;> rfl), by first | exact Kd.R_nil _ _ _ _ _ | exact Kd.N_nil _ _ _ _ _ | exact Kd.V_nil _ _ _ _ _ | exact Kd.Q_nil _ _ _ _ _ | exact Kd.S_nil _ _ _ _ _, by first | exact Kd.R_nil _ _ _ _ _ | exact Kd.N_nil _ _ _ _ _ | exact Kd.V_nil _ _ _ _ _ | exact Kd.Q_nil _ _ _ _ _ | exact Kd.S_nil _ _ _ _ _, by first | exact Kd.R_nil _ _ _ _ _ | exact Kd.N_nil _ _ _ _ _ | exact Kd.V_nil _ _ _ _ _ | exact Kd.Q_nil _ _ _ _ _ | exact Kd.S_nil _ _ _ _ _, by first | exact Kd.R_nil _ _ _ _ _ | exact Kd.N_nil _ _ _ _ _ | exact Kd.V_nil _ _ _ _ _ | exact Kd.Q_nil _ _ _ _ _ | exact Kd.S_nil _ _ _ _ _, by repeat (first | (with_reducible first | exact HB.out | apply below_alloc | apply pw_below_drewN | apply below_drew1 | refine below_set ?_ GE101.out | refine below_set ?_ GE102.out) | exact HB.out)⟩
end Go.Proofs.Ytefiabakfpfbaaa.P
namespace Go.Proofs.Ytefiabakfpfbaaa.P
open Go.RowKit Go.Shelf Go.Proofs.YtefiabakfpfbaaaW.PrintWords Go.Proofs.YtefiabakfpfbaaaW.PrintLast Go.Proofs.YtefiabakfpfbaaaW.PrintMore
def fromR (a : Hi) : Fh × Int := if checkR a ≠ 0 then (emptyF, checkR a) else (fromF a, 0)
theorem clone_f {l : List Sp} (h : l.length < 8796093022208) : slices_Clone_span.f l = some l := if_pos h
theorem from_f (a : Hi) (hw : wfH a) : fhist_From.f a.f0 a.f1 a.f2 a.f3 a.f4 a.f5 a.f6 a.f7 a.f8 = some ((fromR a).1.f0, (fromR a).1.f1, (fromR a).1.f2, (fromR a).1.f3, (fromR a).1.f4, (fromR a).1.f5, (fromR a).1.f6, (fromR a).1.f7, (fromR a).1.f8, (fromR a).2) := by
  have hch : hist_Check.f a.f0 a.f1 a.f2 a.f3 a.f4 a.f5 a.f6 a.f7 a.f8 = some (checkR a) := by
    unfold hist_Check.f checkR
    rw [show hist_open.f a.f0 a.f1 a.f2 a.f3 a.f4 a.f5 a.f6 a.f7 a.f8 = some (openR a) from if_pos hw]
    rfl
  unfold fhist_From.f fromR
  rw [hch, Option.bind_some]
  by_cases hc : checkR a = 0
  · rw [if_pos hc, if_neg (show ¬ checkR a ≠ 0 from fun h => h hc)]
    obtain ⟨z1, z2, z3, z4⟩ := checkR_zero hc
    have b5 := (spCheck_zero (side_bounds z2).2.2.2).1
    have b6 := (spCheck_zero (side_bounds z3).2.2.2).1
    obtain ⟨_, _, _, k7, k8⟩ := from_open hw hc
    rw [show fhist_Float.f a.f2 = some (nearI a.f2) from rfl, show fhist_Float.f a.f3 = some (nearI a.f3) from rfl, clone_f (by omega), clone_f (by omega), show fhist_floats.f a.f7 = some (floatsCR a.f7) from if_pos k7, show fhist_floats.f a.f8 = some (floatsCR a.f8) from if_pos k8]
    rfl
  · rw [if_neg hc, if_pos hc]
    rfl
theorem from_c (a : Hi) (x : Fh) (e : Int) (hw : wfH a) (hx : fromR a = (x, e)) (w : World) (u : Value) (hu : HI w u a) : Calls Try.prog 25 #[u] w fun r w' => ∃ D5x g5x D6x g6x D7x g7x D8x g8x, r = .returned (.tuple #[.agg #[.int .i64 x.f0, .int .u64 x.f1, .int .u64 x.f2, .int .u64 x.f3, .int .u64 x.f4, .slice D5x x.f5.length g5x, .slice D6x x.f6.length g6x, .slice D7x x.f7.length g7x, .slice D8x x.f8.length g8x], .int .i64 e]) ∧ GI w' (.agg #[.int .i64 x.f0, .int .u64 x.f1, .int .u64 x.f2, .int .u64 x.f3, .int .u64 x.f4, .slice D5x x.f5.length g5x, .slice D6x x.f6.length g6x, .slice D7x x.f7.length g7x, .slice D8x x.f8.length g8x]) x ∧ Below w.heap.size w w' := by
  obtain ⟨A5, c5, A6, c6, A7, c7, A8, c8, rfl, ⟨_, _, e5, h51, h52⟩, ⟨_, _, e6, h61, h62⟩, ⟨_, _, e7, h71, h72⟩, ⟨_, _, e8, h81, h82⟩⟩ := hu.open_
  cases e5; cases e6; cases e7; cases e8
  have hf := from_f a hw
  rw [hx] at hf
  refine (fhist_From.calls a.f0 a.f1 a.f2 a.f3 a.f4 A5 c5 _ A6 c6 _ A7 c7 _ A8 c8 _ _ _ _ _ _ _ _ _ _ _ w h52 h51 h62 h61 h72 h71 h82 h81 hf).mono ?_
  rintro r w1 ⟨v5, v6, v7, v8, rfl, h5, h6, h7, h8, hb⟩
  have hi : GI w1 (.agg #[.int .i64 x.f0, .int .u64 x.f1, .int .u64 x.f2, .int .u64 x.f3, .int .u64 x.f4, v5, v6, v7, v8]) x := GI.mk (.of_R h5) (.of_R h6) (.of_R h7) (.of_R h8)
  obtain ⟨a5, c5, a6, c6, a7, c7, a8, c8, e, -⟩ := hi.open_
  rw [e] at hi ⊢
  exact ⟨a5, c5, a6, c6, a7, c7, a8, c8, rfl, hi, hb⟩
end Go.Proofs.Ytefiabakfpfbaaa.P
namespace Go.Proofs.Ytefiabakfpfbaaa.P
open Go.RowKit Go.Shelf Go.Proofs.YtefiabakfpfbaaaW.PrintWords Go.Proofs.YtefiabakfpfbaaaW.PrintLast Go.Proofs.YtefiabakfpfbaaaW.PrintMore
set_option maxHeartbeats 4000000 in
set_option maxRecDepth 100000 in
theorem pairs_f (h : Hi) (hw : wfH h) (side : Int) (w : World) (v : Value) (hv : HI w v h) : Calls Try.prog 73 #[v, .int .i64 side] w fun e w' =>
    ∃ v0, e = .returned (.tuple #[v0, .int .i64 (pairsR h side).2]) ∧ FI kPr w.heap.size w' v0 (pairsR h side).1 ∧ Below w.heap.size w w' := by
  have hu := Try.underlying26
  obtain ⟨A5, c5, A6, c6, A7, c7, A8, c8, e, -⟩ := hv.open_
  subst e
  have HV := Aside0.mk hv
  have HW := Aside0.mk hw
  clear hv hw
  unfold pairsR
  by_cases c0 : side = 0
  · subst c0
    rw [if_pos rfl]
    go_enter Try.func73, Try.ntmps73
    go_wp2_with (go_at_call 87; (with_reducible refine (open_f h HW.out _ _ (HV.out.below (below_alloc (Below.refl _ _) _))).mono ?_); rintro e w1 ⟨v0, v1, rfl, h0, h1, hb⟩; have HO := Aside0.mk h0; have HB := Aside0.mk (below_then (below_alloc (Below.refl w.heap.size w) _) (by simp) hb); clear h0 h1 hb)
    go_ret2
    exact ⟨_, rfl, HO.out.lower (by simp), HB.out⟩
  · rw [if_neg c0]
    have c0a : (side == 0) = false := beq_eq_false_iff_ne.2 c0
    have c0b : (side != 0) = true := bne_iff_ne.2 c0
    by_cases c1 : side = 1
    · subst c1
      rw [if_pos rfl]
      clear c0
      go_enter Try.func73, Try.ntmps73
      go_wp2_with (go_at_call 87; (with_reducible refine (open_f h HW.out _ _ (HV.out.below (below_alloc (Below.refl _ _) _))).mono ?_); rintro e w1 ⟨v0, v1, rfl, h0, h1, hb⟩; have HO := Aside0.mk h1; have HB := Aside0.mk (below_then (below_alloc (Below.refl w.heap.size w) _) (by simp) hb); clear h0 h1 hb)
      go_ret2
      exact ⟨_, rfl, HO.out.lower (by simp), HB.out⟩
    · rw [if_neg c1]
      have c1a : (side == 1) = false := beq_eq_false_iff_ne.2 c1
      have c1b : (side != 1) = true := bne_iff_ne.2 c1
      clear c0 c1
      go_enter Try.func73, Try.ntmps73
      go_wp2
      go_ret2
      exact ⟨_, rfl, fun w _ => SI.nil _ w, below_alloc (Below.refl _ _) _⟩
set_option maxHeartbeats 4000000 in
set_option maxRecDepth 100000 in
theorem fpairs_f (h : Fh) (hw : wfF h) (side : Int) (w : World) (v : Value) (hv : GI w v h) : Calls Try.prog 60 #[v, .int .i64 side] w fun e w' =>
    ∃ v0, e = .returned (.tuple #[v0, .int .i64 (pairsF h side).2]) ∧ FI kPu w.heap.size w' v0 (pairsF h side).1 ∧ Below w.heap.size w w' := by
  have hu := Try.underlying53
  obtain ⟨A5, c5, A6, c6, A7, c7, A8, c8, e, -⟩ := hv.open_
  subst e
  have HV := Aside0.mk hv
  have HW := Aside0.mk hw
  clear hv hw
  unfold pairsF
  by_cases c0 : side = 0
  · subst c0
    rw [if_pos rfl]
    go_enter Try.func60, Try.ntmps60
    go_wp2_with (go_at_call 105; (with_reducible refine (fopen_f h HW.out _ _ (HV.out.below (below_alloc (Below.refl _ _) _))).mono ?_); rintro e w1 ⟨v0, v1, rfl, h0, h1, hb⟩; have HO := Aside0.mk h0; have HB := Aside0.mk (below_then (below_alloc (Below.refl w.heap.size w) _) (by simp) hb); clear h0 h1 hb)
    go_ret2
    exact ⟨_, rfl, HO.out.lower (by simp), HB.out⟩
  · rw [if_neg c0]
    have c0a : (side == 0) = false := beq_eq_false_iff_ne.2 c0
    have c0b : (side != 0) = true := bne_iff_ne.2 c0
    by_cases c1 : side = 1
    · subst c1
      rw [if_pos rfl]
      clear c0
      go_enter Try.func60, Try.ntmps60
      go_wp2_with (go_at_call 105; (with_reducible refine (fopen_f h HW.out _ _ (HV.out.below (below_alloc (Below.refl _ _) _))).mono ?_); rintro e w1 ⟨v0, v1, rfl, h0, h1, hb⟩; have HO := Aside0.mk h1; have HB := Aside0.mk (below_then (below_alloc (Below.refl w.heap.size w) _) (by simp) hb); clear h0 h1 hb)
      go_ret2
      exact ⟨_, rfl, HO.out.lower (by simp), HB.out⟩
    · rw [if_neg c1]
      have c1a : (side == 1) = false := beq_eq_false_iff_ne.2 c1
      have c1b : (side != 1) = true := bne_iff_ne.2 c1
      clear c0 c1
      go_enter Try.func60, Try.ntmps60
      go_wp2_with (go_at_call 105; (with_reducible refine (fopen_f h HW.out _ _ (HV.out.below (below_alloc (Below.refl _ _) _))).mono ?_); rintro e w1 ⟨v0, v1, rfl, h0, h1, hb⟩; have HO := Aside0.mk h1; have HB := Aside0.mk (below_then (below_alloc (Below.refl w.heap.size w) _) (by simp) hb); clear h0 h1 hb)
      go_ret2
      exact ⟨_, rfl, fun w _ => SI.nil _ w, HB.out⟩
theorem openF_wrong {h : Fh} (hc : checkF h ≠ 0) : (openF h).1 = [] ∧ (openF h).2.1 = [] := by
  unfold checkF openF at *
  repeat' split
  all_goals first | exact ⟨rfl, rfl⟩ | skip
  all_goals exfalso; apply hc; simp [*]
set_option maxHeartbeats 8000000 in
set_option maxRecDepth 100000 in
theorem sidesI_c (h : Hi) (hw : wfH h) (w : World) (v : Value) (hv : HI w v h) : Calls Try.prog 72 #[v, .func (.func 73) #[] #[]] w fun e w' =>
    ∃ v0 v1, e = .returned (.tuple #[.agg #[v0, v1], .int .i64 (checkR h)]) ∧ SI kPr w' v0 (openR h).1 ∧ SI kPr w' v1 (openR h).2.1 ∧ Below w.heap.size w w' := by
  have hu := Try.underlying26
  have p0 := pairs_f h hw 0
  have p1 := pairs_f h hw 1
  rw [show pairsR h 0 = ((openR h).1, checkR h) from rfl] at p0
  rw [show pairsR h 1 = ((openR h).2.1, checkR h) from rfl] at p1
  have hwr := @openR_wrong h
  obtain ⟨A5, c5, A6, c6, A7, c7, A8, c8, e, -⟩ := hv.open_
  subst e
  generalize (openR h).1 = p at *
  generalize (openR h).2.1 = n at *
  generalize checkR h = r at *
  have HV := Aside0.mk hv
  have P0 := Aside0.mk p0
  clear hv hw p0
  by_cases c : r = 0
  rotate_left
  · obtain ⟨hp, hn⟩ := hwr c
    subst hp; subst hn
    have d : (r == 0) = false := beq_eq_false_iff_ne.2 c
    have d2 : (r != 0) = true := bne_iff_ne.2 c
    clear hwr c p1
    go_enter Try.func72, Try.ntmps72
    go_wp2_with (go_at_call 73; (with_reducible refine (P0.out _ _ (HV.out.below (below_alloc (below_alloc (below_alloc (Below.refl w.heap.size w) (.cells #[.int .i64 h.f0, .int .u64 h.f1, .int .u64 h.f2, .int .u64 h.f3, .int .u64 h.f4, .slice A5 h.f5.length c5, .slice A6 h.f6.length c6, .slice A7 h.f7.length c7, .slice A8 h.f8.length c8] 26)) (.cells #[.slice none 0 0, .slice none 0 0] 115)) (.cells #[.slice none 0 0, .slice none 0 0] 115)))).mono ?_); rintro e w1 ⟨v0, rfl, h0, hb⟩; obtain ⟨B0, d0, rfl⟩ := h0.slice; have F0 := Aside0.mk (show FI kPr (w.heap.size + 1 + 1 + 1) w1 (.slice B0 0 d0) ([] : List Pr) by simpa using h0); have HB1 := Aside0.mk (below_then (below_alloc (below_alloc (below_alloc (Below.refl w.heap.size w) (.cells #[.int .i64 h.f0, .int .u64 h.f1, .int .u64 h.f2, .int .u64 h.f3, .int .u64 h.f4, .slice A5 h.f5.length c5, .slice A6 h.f6.length c6, .slice A7 h.f7.length c7, .slice A8 h.f8.length c8] 26)) (.cells #[.slice none 0 0, .slice none 0 0] 115)) (.cells #[.slice none 0 0, .slice none 0 0] 115)) (by simp; omega) hb); have HX1 := Aside0.mk (blk_below (blk_alloc (blk_alloc (blk_new w (.cells #[.int .i64 h.f0, .int .u64 h.f1, .int .u64 h.f2, .int .u64 h.f3, .int .u64 h.f4, .slice A5 h.f5.length c5, .slice A6 h.f6.length c6, .slice A7 h.f7.length c7, .slice A8 h.f8.length c8] 26)) (.cells #[.slice none 0 0, .slice none 0 0] 115)) (.cells #[.slice none 0 0, .slice none 0 0] 115)) hb); have HY1 := Aside0.mk (show w1.heap[w.heap.size + 1]? = some (.cells #[.slice none 0 0, .slice none 0 0] 115 (0, 0)) from blk_below (blk_alloc (show ((w.alloc (.cells #[.int .i64 h.f0, .int .u64 h.f1, .int .u64 h.f2, .int .u64 h.f3, .int .u64 h.f4, .slice A5 h.f5.length c5, .slice A6 h.f6.length c6, .slice A7 h.f7.length c7, .slice A8 h.f8.length c8] 26)).alloc (.cells #[.slice none 0 0, .slice none 0 0] 115)).heap[w.heap.size + 1]? = _ by simpa using blk_new (w.alloc (.cells #[.int .i64 h.f0, .int .u64 h.f1, .int .u64 h.f2, .int .u64 h.f3, .int .u64 h.f4, .slice A5 h.f5.length c5, .slice A6 h.f6.length c6, .slice A7 h.f7.length c7, .slice A8 h.f8.length c8] 26)) (.cells #[.slice none 0 0, .slice none 0 0] 115)) (.cells #[.slice none 0 0, .slice none 0 0] 115)) hb); have HZ1 := Aside0.mk (show w1.heap[w.heap.size + 1 + 1]? = some (.cells #[.slice none 0 0, .slice none 0 0] 115 (0, 0)) from blk_below (show (((w.alloc (.cells #[.int .i64 h.f0, .int .u64 h.f1, .int .u64 h.f2, .int .u64 h.f3, .int .u64 h.f4, .slice A5 h.f5.length c5, .slice A6 h.f6.length c6, .slice A7 h.f7.length c7, .slice A8 h.f8.length c8] 26)).alloc (.cells #[.slice none 0 0, .slice none 0 0] 115)).alloc (.cells #[.slice none 0 0, .slice none 0 0] 115)).heap[w.heap.size + 1 + 1]? = _ by simpa using blk_new ((w.alloc (.cells #[.int .i64 h.f0, .int .u64 h.f1, .int .u64 h.f2, .int .u64 h.f3, .int .u64 h.f4, .slice A5 h.f5.length c5, .slice A6 h.f6.length c6, .slice A7 h.f7.length c7, .slice A8 h.f8.length c8] 26)).alloc (.cells #[.slice none 0 0, .slice none 0 0] 115)) (.cells #[.slice none 0 0, .slice none 0 0] 115)) hb); have hfx := fun i => blk_cell HX1.out i; have hfy := fun i => blk_cell HY1.out i; have hzy := fun i => blk_frozen HY1.out i; have hfz := fun i => blk_cell HZ1.out i; have hzz := fun i => blk_frozen HZ1.out i; clear h0 hb)
    refine bodyPost_ret (results_ct rfl _ _ (w.heap.size + 1) 115 #[.slice B0 0 d0, .slice none 0 0] (0, 0) _ rfl (blk_put (blk_put (blk_far HY1.out (by show w.heap.size + 1 ≠ w.heap.size + 1 + 1; omega) _) 0 _ rfl) 1 _ rfl) Try.underlying115 rfl (by kernel_rfl)) rfl ?_
    exact ⟨_, _, rfl, F0.out.at_ (((KA.set _ (by omega) _).trans (KA.set _ (by omega) _)).trans (KA.set _ (by omega) _)), SI.nil _ _, ((HB1.out.setCell (p := ⟨w.heap.size + 1 + 1, 0, none⟩) (by show w.heap.size ≤ w.heap.size + 1 + 1; omega) _).setCell (p := ⟨w.heap.size + 1, 0, none⟩) (by show w.heap.size ≤ w.heap.size + 1; omega) _).setCell (p := ⟨w.heap.size + 1, 1, none⟩) (by show w.heap.size ≤ w.heap.size + 1; omega) _⟩
  subst c
  have P1 := Aside0.mk p1
  clear hwr p1
  go_enter Try.func72, Try.ntmps72
  go_wp2_with (first | (go_at_call 73; (with_reducible refine (P0.out _ _ (HV.out.below (below_alloc (below_alloc (below_alloc (Below.refl w.heap.size w) (.cells #[.int .i64 h.f0, .int .u64 h.f1, .int .u64 h.f2, .int .u64 h.f3, .int .u64 h.f4, .slice A5 h.f5.length c5, .slice A6 h.f6.length c6, .slice A7 h.f7.length c7, .slice A8 h.f8.length c8] 26)) (.cells #[.slice none 0 0, .slice none 0 0] 115)) (.cells #[.slice none 0 0, .slice none 0 0] 115)))).mono ?_); rintro e w1 ⟨v0, rfl, h0, hb⟩; obtain ⟨B0, d0, rfl⟩ := h0.slice; have F0 := Aside0.mk (show FI kPr (w.heap.size + 1 + 1 + 1) w1 (.slice B0 p.length d0) p by simpa using h0); have HB1 := Aside0.mk (below_then (below_alloc (below_alloc (below_alloc (Below.refl w.heap.size w) (.cells #[.int .i64 h.f0, .int .u64 h.f1, .int .u64 h.f2, .int .u64 h.f3, .int .u64 h.f4, .slice A5 h.f5.length c5, .slice A6 h.f6.length c6, .slice A7 h.f7.length c7, .slice A8 h.f8.length c8] 26)) (.cells #[.slice none 0 0, .slice none 0 0] 115)) (.cells #[.slice none 0 0, .slice none 0 0] 115)) (by simp; omega) hb); have HX1 := Aside0.mk (blk_below (blk_alloc (blk_alloc (blk_new w (.cells #[.int .i64 h.f0, .int .u64 h.f1, .int .u64 h.f2, .int .u64 h.f3, .int .u64 h.f4, .slice A5 h.f5.length c5, .slice A6 h.f6.length c6, .slice A7 h.f7.length c7, .slice A8 h.f8.length c8] 26)) (.cells #[.slice none 0 0, .slice none 0 0] 115)) (.cells #[.slice none 0 0, .slice none 0 0] 115)) hb); have HY1 := Aside0.mk (show w1.heap[w.heap.size + 1]? = some (.cells #[.slice none 0 0, .slice none 0 0] 115 (0, 0)) from blk_below (blk_alloc (show ((w.alloc (.cells #[.int .i64 h.f0, .int .u64 h.f1, .int .u64 h.f2, .int .u64 h.f3, .int .u64 h.f4, .slice A5 h.f5.length c5, .slice A6 h.f6.length c6, .slice A7 h.f7.length c7, .slice A8 h.f8.length c8] 26)).alloc (.cells #[.slice none 0 0, .slice none 0 0] 115)).heap[w.heap.size + 1]? = _ by simpa using blk_new (w.alloc (.cells #[.int .i64 h.f0, .int .u64 h.f1, .int .u64 h.f2, .int .u64 h.f3, .int .u64 h.f4, .slice A5 h.f5.length c5, .slice A6 h.f6.length c6, .slice A7 h.f7.length c7, .slice A8 h.f8.length c8] 26)) (.cells #[.slice none 0 0, .slice none 0 0] 115)) (.cells #[.slice none 0 0, .slice none 0 0] 115)) hb); have HZ1 := Aside0.mk (show w1.heap[w.heap.size + 1 + 1]? = some (.cells #[.slice none 0 0, .slice none 0 0] 115 (0, 0)) from blk_below (show (((w.alloc (.cells #[.int .i64 h.f0, .int .u64 h.f1, .int .u64 h.f2, .int .u64 h.f3, .int .u64 h.f4, .slice A5 h.f5.length c5, .slice A6 h.f6.length c6, .slice A7 h.f7.length c7, .slice A8 h.f8.length c8] 26)).alloc (.cells #[.slice none 0 0, .slice none 0 0] 115)).alloc (.cells #[.slice none 0 0, .slice none 0 0] 115)).heap[w.heap.size + 1 + 1]? = _ by simpa using blk_new ((w.alloc (.cells #[.int .i64 h.f0, .int .u64 h.f1, .int .u64 h.f2, .int .u64 h.f3, .int .u64 h.f4, .slice A5 h.f5.length c5, .slice A6 h.f6.length c6, .slice A7 h.f7.length c7, .slice A8 h.f8.length c8] 26)).alloc (.cells #[.slice none 0 0, .slice none 0 0] 115)) (.cells #[.slice none 0 0, .slice none 0 0] 115)) hb); have hfx := fun i => blk_cell HX1.out i; have hfy := fun i => blk_cell HY1.out i; have hzy := fun i => blk_frozen HY1.out i; have hfz := fun i => blk_cell HZ1.out i; have hzz := fun i => blk_frozen HZ1.out i; clear h0 hb) | (go_at_call 73; ((with_reducible refine (P1.out _ _ (HV.out.below (HB1.out.setCell (p := ⟨w.heap.size + 1 + 1, 0, none⟩) (by show w.heap.size ≤ w.heap.size + 1 + 1; omega) _))).mono ?_); rintro e w2 ⟨v1, rfl, h1, hb⟩; obtain ⟨B1, d1, rfl⟩ := h1.slice; have hs3 := Nat.succ_le_of_lt (blk_lt HZ1.out); have F1 := Aside0.mk (show FI kPr (w.heap.size + 1 + 1 + 1) w2 (.slice B1 n.length d1) n from FI.lower h1 (by simpa [World.setCell] using hs3)); have K2 := Aside0.mk (show KA (w.heap.size + 1 + 1 + 1) w1 w2 from (KA.set _ (by omega) _).trans (KA.below hb)); have HB2 := Aside0.mk (below_then (HB1.out.setCell (p := ⟨w.heap.size + 1 + 1, 0, none⟩) (by show w.heap.size ≤ w.heap.size + 1 + 1; omega) _) (by have := HB1.out.size; simpa [World.setCell] using this) hb); have HY2 := Aside0.mk (blk_below (blk_far HY1.out (by show w.heap.size + 1 ≠ w.heap.size + 1 + 1; omega) _) hb); have HZ2 := Aside0.mk (blk_below (blk_put HZ1.out 0 _ rfl) hb); clear hfx hfy hzy hfz hzz; have hfy := fun i => blk_cell HY2.out i; have hzy := fun i => blk_frozen HY2.out i; have hfz := fun i => blk_cell HZ2.out i; have hzz := fun i => blk_frozen HZ2.out i; clear h1 hb hs3)))
  refine bodyPost_ret (results_ct rfl _ _ (w.heap.size + 1) 115 #[.slice B0 p.length d0, .slice B1 n.length d1] (0, 0) _ rfl (blk_put (blk_put (blk_far HY2.out (by show w.heap.size + 1 ≠ w.heap.size + 1 + 1; omega) _) 0 _ rfl) 1 _ rfl) Try.underlying115 rfl (by kernel_rfl)) rfl ?_
  exact ⟨_, _, rfl, F0.out.at_ (K2.out.trans (((KA.set _ (by omega) _).trans (KA.set _ (by omega) _)).trans (KA.set _ (by omega) _))), F1.out.at_ (((KA.set _ (by omega) _).trans (KA.set _ (by omega) _)).trans (KA.set _ (by omega) _)), ((HB2.out.setCell (p := ⟨w.heap.size + 1 + 1, 1, none⟩) (by show w.heap.size ≤ w.heap.size + 1 + 1; omega) _).setCell (p := ⟨w.heap.size + 1, 0, none⟩) (by show w.heap.size ≤ w.heap.size + 1; omega) _).setCell (p := ⟨w.heap.size + 1, 1, none⟩) (by show w.heap.size ≤ w.heap.size + 1; omega) _⟩
set_option maxHeartbeats 8000000 in
set_option maxRecDepth 100000 in
theorem sidesF_c (h : Fh) (hw : wfF h) (w : World) (v : Value) (hv : GI w v h) : Calls Try.prog 76 #[v, .func (.func 60) #[] #[]] w fun e w' =>
    ∃ v0 v1, e = .returned (.tuple #[.agg #[v0, v1], .int .i64 (checkF h)]) ∧ SI kPu w' v0 (openF h).1 ∧ SI kPu w' v1 (openF h).2.1 ∧ Below w.heap.size w w' := by
  have hu := Try.underlying53
  have p0 := fpairs_f h hw 0
  have p1 := fpairs_f h hw 1
  rw [show pairsF h 0 = ((openF h).1, checkF h) from rfl] at p0
  rw [show pairsF h 1 = ((openF h).2.1, checkF h) from rfl] at p1
  have hwr := @openF_wrong h
  obtain ⟨A5, c5, A6, c6, A7, c7, A8, c8, e, -⟩ := hv.open_
  subst e
  generalize (openF h).1 = p at *
  generalize (openF h).2.1 = n at *
  generalize checkF h = r at *
  have HV := Aside0.mk hv
  have P0 := Aside0.mk p0
  clear hv hw p0
  by_cases c : r = 0
  rotate_left
  · obtain ⟨hp, hn⟩ := hwr c
    subst hp; subst hn
    have d : (r == 0) = false := beq_eq_false_iff_ne.2 c
    have d2 : (r != 0) = true := bne_iff_ne.2 c
    clear hwr c p1
    go_enter Try.func76, Try.ntmps76
    go_wp2_with (go_at_call 60; (with_reducible refine (P0.out _ _ (HV.out.below (below_alloc (below_alloc (below_alloc (Below.refl w.heap.size w) (.cells #[.int .i64 h.f0, .int .u64 h.f1, .int .u64 h.f2, .int .u64 h.f3, .int .u64 h.f4, .slice A5 h.f5.length c5, .slice A6 h.f6.length c6, .slice A7 h.f7.length c7, .slice A8 h.f8.length c8] 53)) (.cells #[.slice none 0 0, .slice none 0 0] 123)) (.cells #[.slice none 0 0, .slice none 0 0] 123)))).mono ?_); rintro e w1 ⟨v0, rfl, h0, hb⟩; obtain ⟨B0, d0, rfl⟩ := h0.slice; have F0 := Aside0.mk (show FI kPu (w.heap.size + 1 + 1 + 1) w1 (.slice B0 0 d0) ([] : List Pu) by simpa using h0); have HB1 := Aside0.mk (below_then (below_alloc (below_alloc (below_alloc (Below.refl w.heap.size w) (.cells #[.int .i64 h.f0, .int .u64 h.f1, .int .u64 h.f2, .int .u64 h.f3, .int .u64 h.f4, .slice A5 h.f5.length c5, .slice A6 h.f6.length c6, .slice A7 h.f7.length c7, .slice A8 h.f8.length c8] 53)) (.cells #[.slice none 0 0, .slice none 0 0] 123)) (.cells #[.slice none 0 0, .slice none 0 0] 123)) (by simp; omega) hb); have HX1 := Aside0.mk (blk_below (blk_alloc (blk_alloc (blk_new w (.cells #[.int .i64 h.f0, .int .u64 h.f1, .int .u64 h.f2, .int .u64 h.f3, .int .u64 h.f4, .slice A5 h.f5.length c5, .slice A6 h.f6.length c6, .slice A7 h.f7.length c7, .slice A8 h.f8.length c8] 53)) (.cells #[.slice none 0 0, .slice none 0 0] 123)) (.cells #[.slice none 0 0, .slice none 0 0] 123)) hb); have HY1 := Aside0.mk (show w1.heap[w.heap.size + 1]? = some (.cells #[.slice none 0 0, .slice none 0 0] 123 (0, 0)) from blk_below (blk_alloc (show ((w.alloc (.cells #[.int .i64 h.f0, .int .u64 h.f1, .int .u64 h.f2, .int .u64 h.f3, .int .u64 h.f4, .slice A5 h.f5.length c5, .slice A6 h.f6.length c6, .slice A7 h.f7.length c7, .slice A8 h.f8.length c8] 53)).alloc (.cells #[.slice none 0 0, .slice none 0 0] 123)).heap[w.heap.size + 1]? = _ by simpa using blk_new (w.alloc (.cells #[.int .i64 h.f0, .int .u64 h.f1, .int .u64 h.f2, .int .u64 h.f3, .int .u64 h.f4, .slice A5 h.f5.length c5, .slice A6 h.f6.length c6, .slice A7 h.f7.length c7, .slice A8 h.f8.length c8] 53)) (.cells #[.slice none 0 0, .slice none 0 0] 123)) (.cells #[.slice none 0 0, .slice none 0 0] 123)) hb); have HZ1 := Aside0.mk (show w1.heap[w.heap.size + 1 + 1]? = some (.cells #[.slice none 0 0, .slice none 0 0] 123 (0, 0)) from blk_below (show (((w.alloc (.cells #[.int .i64 h.f0, .int .u64 h.f1, .int .u64 h.f2, .int .u64 h.f3, .int .u64 h.f4, .slice A5 h.f5.length c5, .slice A6 h.f6.length c6, .slice A7 h.f7.length c7, .slice A8 h.f8.length c8] 53)).alloc (.cells #[.slice none 0 0, .slice none 0 0] 123)).alloc (.cells #[.slice none 0 0, .slice none 0 0] 123)).heap[w.heap.size + 1 + 1]? = _ by simpa using blk_new ((w.alloc (.cells #[.int .i64 h.f0, .int .u64 h.f1, .int .u64 h.f2, .int .u64 h.f3, .int .u64 h.f4, .slice A5 h.f5.length c5, .slice A6 h.f6.length c6, .slice A7 h.f7.length c7, .slice A8 h.f8.length c8] 53)).alloc (.cells #[.slice none 0 0, .slice none 0 0] 123)) (.cells #[.slice none 0 0, .slice none 0 0] 123)) hb); have hfx := fun i => blk_cell HX1.out i; have hfy := fun i => blk_cell HY1.out i; have hzy := fun i => blk_frozen HY1.out i; have hfz := fun i => blk_cell HZ1.out i; have hzz := fun i => blk_frozen HZ1.out i; clear h0 hb)
    refine bodyPost_ret (results_ct rfl _ _ (w.heap.size + 1) 123 #[.slice B0 0 d0, .slice none 0 0] (0, 0) _ rfl (blk_put (blk_put (blk_far HY1.out (by show w.heap.size + 1 ≠ w.heap.size + 1 + 1; omega) _) 0 _ rfl) 1 _ rfl) Try.underlying123 rfl (by kernel_rfl)) rfl ?_
    exact ⟨_, _, rfl, F0.out.at_ (((KA.set _ (by omega) _).trans (KA.set _ (by omega) _)).trans (KA.set _ (by omega) _)), SI.nil _ _, ((HB1.out.setCell (p := ⟨w.heap.size + 1 + 1, 0, none⟩) (by show w.heap.size ≤ w.heap.size + 1 + 1; omega) _).setCell (p := ⟨w.heap.size + 1, 0, none⟩) (by show w.heap.size ≤ w.heap.size + 1; omega) _).setCell (p := ⟨w.heap.size + 1, 1, none⟩) (by show w.heap.size ≤ w.heap.size + 1; omega) _⟩
  subst c
  have P1 := Aside0.mk p1
  clear hwr p1
  go_enter Try.func76, Try.ntmps76
  go_wp2_with (first | (go_at_call 60; (with_reducible refine (P0.out _ _ (HV.out.below (below_alloc (below_alloc (below_alloc (Below.refl w.heap.size w) (.cells #[.int .i64 h.f0, .int .u64 h.f1, .int .u64 h.f2, .int .u64 h.f3, .int .u64 h.f4, .slice A5 h.f5.length c5, .slice A6 h.f6.length c6, .slice A7 h.f7.length c7, .slice A8 h.f8.length c8] 53)) (.cells #[.slice none 0 0, .slice none 0 0] 123)) (.cells #[.slice none 0 0, .slice none 0 0] 123)))).mono ?_); rintro e w1 ⟨v0, rfl, h0, hb⟩; obtain ⟨B0, d0, rfl⟩ := h0.slice; have F0 := Aside0.mk (show FI kPu (w.heap.size + 1 + 1 + 1) w1 (.slice B0 p.length d0) p by simpa using h0); have HB1 := Aside0.mk (below_then (below_alloc (below_alloc (below_alloc (Below.refl w.heap.size w) (.cells #[.int .i64 h.f0, .int .u64 h.f1, .int .u64 h.f2, .int .u64 h.f3, .int .u64 h.f4, .slice A5 h.f5.length c5, .slice A6 h.f6.length c6, .slice A7 h.f7.length c7, .slice A8 h.f8.length c8] 53)) (.cells #[.slice none 0 0, .slice none 0 0] 123)) (.cells #[.slice none 0 0, .slice none 0 0] 123)) (by simp; omega) hb); have HX1 := Aside0.mk (blk_below (blk_alloc (blk_alloc (blk_new w (.cells #[.int .i64 h.f0, .int .u64 h.f1, .int .u64 h.f2, .int .u64 h.f3, .int .u64 h.f4, .slice A5 h.f5.length c5, .slice A6 h.f6.length c6, .slice A7 h.f7.length c7, .slice A8 h.f8.length c8] 53)) (.cells #[.slice none 0 0, .slice none 0 0] 123)) (.cells #[.slice none 0 0, .slice none 0 0] 123)) hb); have HY1 := Aside0.mk (show w1.heap[w.heap.size + 1]? = some (.cells #[.slice none 0 0, .slice none 0 0] 123 (0, 0)) from blk_below (blk_alloc (show ((w.alloc (.cells #[.int .i64 h.f0, .int .u64 h.f1, .int .u64 h.f2, .int .u64 h.f3, .int .u64 h.f4, .slice A5 h.f5.length c5, .slice A6 h.f6.length c6, .slice A7 h.f7.length c7, .slice A8 h.f8.length c8] 53)).alloc (.cells #[.slice none 0 0, .slice none 0 0] 123)).heap[w.heap.size + 1]? = _ by simpa using blk_new (w.alloc (.cells #[.int .i64 h.f0, .int .u64 h.f1, .int .u64 h.f2, .int .u64 h.f3, .int .u64 h.f4, .slice A5 h.f5.length c5, .slice A6 h.f6.length c6, .slice A7 h.f7.length c7, .slice A8 h.f8.length c8] 53)) (.cells #[.slice none 0 0, .slice none 0 0] 123)) (.cells #[.slice none 0 0, .slice none 0 0] 123)) hb); have HZ1 := Aside0.mk (show w1.heap[w.heap.size + 1 + 1]? = some (.cells #[.slice none 0 0, .slice none 0 0] 123 (0, 0)) from blk_below (show (((w.alloc (.cells #[.int .i64 h.f0, .int .u64 h.f1, .int .u64 h.f2, .int .u64 h.f3, .int .u64 h.f4, .slice A5 h.f5.length c5, .slice A6 h.f6.length c6, .slice A7 h.f7.length c7, .slice A8 h.f8.length c8] 53)).alloc (.cells #[.slice none 0 0, .slice none 0 0] 123)).alloc (.cells #[.slice none 0 0, .slice none 0 0] 123)).heap[w.heap.size + 1 + 1]? = _ by simpa using blk_new ((w.alloc (.cells #[.int .i64 h.f0, .int .u64 h.f1, .int .u64 h.f2, .int .u64 h.f3, .int .u64 h.f4, .slice A5 h.f5.length c5, .slice A6 h.f6.length c6, .slice A7 h.f7.length c7, .slice A8 h.f8.length c8] 53)).alloc (.cells #[.slice none 0 0, .slice none 0 0] 123)) (.cells #[.slice none 0 0, .slice none 0 0] 123)) hb); have hfx := fun i => blk_cell HX1.out i; have hfy := fun i => blk_cell HY1.out i; have hzy := fun i => blk_frozen HY1.out i; have hfz := fun i => blk_cell HZ1.out i; have hzz := fun i => blk_frozen HZ1.out i; clear h0 hb) | (go_at_call 60; ((with_reducible refine (P1.out _ _ (HV.out.below (HB1.out.setCell (p := ⟨w.heap.size + 1 + 1, 0, none⟩) (by show w.heap.size ≤ w.heap.size + 1 + 1; omega) _))).mono ?_); rintro e w2 ⟨v1, rfl, h1, hb⟩; obtain ⟨B1, d1, rfl⟩ := h1.slice; have hs3 := Nat.succ_le_of_lt (blk_lt HZ1.out); have F1 := Aside0.mk (show FI kPu (w.heap.size + 1 + 1 + 1) w2 (.slice B1 n.length d1) n from FI.lower h1 (by simpa [World.setCell] using hs3)); have K2 := Aside0.mk (show KA (w.heap.size + 1 + 1 + 1) w1 w2 from (KA.set _ (by omega) _).trans (KA.below hb)); have HB2 := Aside0.mk (below_then (HB1.out.setCell (p := ⟨w.heap.size + 1 + 1, 0, none⟩) (by show w.heap.size ≤ w.heap.size + 1 + 1; omega) _) (by have := HB1.out.size; simpa [World.setCell] using this) hb); have HY2 := Aside0.mk (blk_below (blk_far HY1.out (by show w.heap.size + 1 ≠ w.heap.size + 1 + 1; omega) _) hb); have HZ2 := Aside0.mk (blk_below (blk_put HZ1.out 0 _ rfl) hb); clear hfx hfy hzy hfz hzz; have hfy := fun i => blk_cell HY2.out i; have hzy := fun i => blk_frozen HY2.out i; have hfz := fun i => blk_cell HZ2.out i; have hzz := fun i => blk_frozen HZ2.out i; clear h1 hb hs3)))
  refine bodyPost_ret (results_ct rfl _ _ (w.heap.size + 1) 123 #[.slice B0 p.length d0, .slice B1 n.length d1] (0, 0) _ rfl (blk_put (blk_put (blk_far HY2.out (by show w.heap.size + 1 ≠ w.heap.size + 1 + 1; omega) _) 0 _ rfl) 1 _ rfl) Try.underlying123 rfl (by kernel_rfl)) rfl ?_
  exact ⟨_, _, rfl, F0.out.at_ (K2.out.trans (((KA.set _ (by omega) _).trans (KA.set _ (by omega) _)).trans (KA.set _ (by omega) _))), F1.out.at_ (((KA.set _ (by omega) _).trans (KA.set _ (by omega) _)).trans (KA.set _ (by omega) _)), ((HB2.out.setCell (p := ⟨w.heap.size + 1 + 1, 1, none⟩) (by show w.heap.size ≤ w.heap.size + 1 + 1; omega) _).setCell (p := ⟨w.heap.size + 1, 0, none⟩) (by show w.heap.size ≤ w.heap.size + 1; omega) _).setCell (p := ⟨w.heap.size + 1, 1, none⟩) (by show w.heap.size ≤ w.heap.size + 1; omega) _⟩
end Go.Proofs.Ytefiabakfpfbaaa.P
