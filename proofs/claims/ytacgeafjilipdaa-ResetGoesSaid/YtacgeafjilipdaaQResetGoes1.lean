/- ResetGoes: the part that this text bears of the proof that the statement answers true for every input. No condition. -/
import Derived.Test.YtacgeafjilipdaaProg
import Derived.Below
import Derived.Deep.Draws
import Derived.Deep.AppendLies
import Derived.Maps.AppendAt
import Derived.OwnWalk
import Derived.Laws.BytesArg
import Derived.Laws.MakeOwn
import Derived.Laws.OwnMore
import Derived.Deep.OwnRows
import Derived.Tactics
import Derived.Lib.ConvBytes
import Derived.Laws.Slices
import Derived.WalkKit
import Derived.KernelRfl
import Derived.RowKit3
import Derived.Deep.LoopGhost
import Derived.Deep.QuietTactic
import Derived.BigQuiet
import Derived.WideLaws
import Derived.Deep.DeepCutAuto
import Derived.Deep.CutBlock
import Derived.Deep.RegionHeld3
import Derived.Laws.Rows
import Derived.Lib.AppendStr
import Derived.ArgAppend
import Derived.Laws.IdiomCopy
import Derived.OrdersHeld
import Derived.Laws.BitsLemmas
import Derived.RowKit
import Derived.Deep.Slices
import Derived.ChangeArms
import Derived.Shelf.Abstract
import Derived.WalkSpells
import Derived.RangeFuncNested
import Derived.RangeFuncBound
import Derived.RangeFuncCalls
import Derived.RangeFuncLeaves
import Derived.RangeFuncBox
import Derived.OwnWalkIn
import Derived.TacticsInMore
import Derived.LoopNIn
import Derived.LoopIn
import Derived.Laws.Externs
import Derived.Shelf.Spec.BitsCarry
import Derived.RegionIn
import Derived.Sort.QuietTacIn
import Derived.Deep.RegionWith
import Derived.Laws.BitsAllLaws
import Derived.ProofKit
import Derived.JoinedOf
import Derived.OpenShut
import Derived.ShutString
import Derived.ChangeOld
import Derived.SizedLaws
import Derived.Test.YtacgeafjilipdaaQResetGoesWWords
import Derived.Test.YtacgeafjilipdaaQResetGoesWLast
import Derived.Test.YtacgeafjilipdaaQResetGoesWTab
import Derived.Test.YtacgeafjilipdaaQResetGoesWFour
import Derived.Test.YtacgeafjilipdaaQResetGoesWQPut
import Derived.Test.YtacgeafjilipdaaQResetGoesWApart
import Derived.Test.YtacgeafjilipdaaQResetGoesWArr
import Derived.Test.YtacgeafjilipdaaQResetGoesWZeros
import Derived.Test.YtacgeafjilipdaaQResetGoesWFoot
import Derived.Test.YtacgeafjilipdaaQResetGoesWKept
import Derived.Test.YtacgeafjilipdaaQResetGoesWShare
import Derived.Test.YtacgeafjilipdaaQResetGoesWN
import Derived.Test.YtacgeafjilipdaaQResetGoesWFootNe
import Derived.Test.YtacgeafjilipdaaQResetGoesWAt
import Derived.Test.YtacgeafjilipdaaQResetGoesWEqStruct
import Derived.Test.YtacgeafjilipdaaQResetGoesWRepsOne
import Derived.Test.YtacgeafjilipdaaQResetGoesWInv
import Derived.Test.YtacgeafjilipdaaQResetGoesWInvWords
import Derived.Test.YtacgeafjilipdaaQResetGoesWGuard
import Derived.Test.YtacgeafjilipdaaQResetGoesWNEv
import Derived.Test.YtacgeafjilipdaaQResetGoesWMore
import Derived.Test.YtacgeafjilipdaaRows
import Derived.Test.YtacgeafjilipdaaQResetGoes0
namespace Go.Proofs.Ytacgeafjilipdaa.P
open Go.RowKit Go.Proofs.YtacgeafjilipdaaW.PrintWords Go.Proofs.YtacgeafjilipdaaW.PrintLast Go.Proofs.YtacgeafjilipdaaW.PrintMore
attribute [local go_sem] max2_int min2_int max_two min_two max_three min_three max_four min_four
set_option linter.unusedVariables false
set_option linter.unusedSimpArgs false
mutual
def reset_less_int64.l0 : Nat → List (S26) → Int → List (S26) → Int → Int → Option (Int × Bool)
 | 0, _, _, _, _, _ => none
 | k + 1, x1, x6, x10, x11, x12 => if x12 < x11 then (if 0 ≤ x12 then (if x12 < (x10.length : Int) then (reset_less_int64.l1 k x1 x6 x10 x11 x12 ((rd_T26 x10 x12).f0) ((rd_T26 x10 x12).f1)) else (none)) else (none)) else (some (0, false))
def reset_less_int64.j2 : Nat → List (S26) → Int → List (S26) → Int → Int → Int → Int → Option (Int × Bool)
 | 0, _, _, _, _, _, _, _ => none
 | k + 1, x1, x6, x10, x11, x12, x103000, x103001 => if (x1.length : Int) > 0 then (if 0 < (x1.length : Int) then (reset_less_int64.j3 k x1 x6 x6 x10 x11 x12 (((rd_T26 x1 0).f0) == x103000) x103000 x103001) else (none)) else (reset_less_int64.j3 k x1 x6 x6 x10 x11 x12 false x103000 x103001)
def reset_less_int64.j3 : Nat → List (S26) → Int → Int → List (S26) → Int → Int → Bool → Int → Int → Option (Int × Bool)
 | 0, _, _, _, _, _, _, _, _, _ => none
 | k + 1, x1, x6, x9, x10, x11, x12, x42, x103000, x103001 => if x42 = true then (if 0 < (x1.length : Int) then (if ((rd_T26 x1 0).f1) < x103001 then (some (x103000, true)) else (reset_less_int64.l0 k x1 x6 x10 x11 (wrap64 (x12 + 1)))) else (none)) else (if x9 < x103001 then (some (x103000, true)) else (reset_less_int64.l0 k x1 x6 x10 x11 (wrap64 (x12 + 1))))
def reset_less_int64.l1 : Nat → List (S26) → Int → List (S26) → Int → Int → Int → Int → Option (Int × Bool)
 | 0, _, _, _, _, _, _, _ => none
 | k + 1, x1, x6, x10, x11, x12, x103000, x103001 => if (x1.length : Int) > 0 then (if 0 < (x1.length : Int) then (if ((rd_T26 x1 0).f0) < x103000 then (if 1 ≤ (x1.length : Int) then (reset_less_int64.l1 k (x1.drop 1) x6 x10 x11 x12 x103000 x103001) else (none)) else (reset_less_int64.j2 k x1 x6 x10 x11 x12 x103000 x103001)) else (none)) else (reset_less_int64.j2 k x1 x6 x10 x11 x12 x103000 x103001)
end
def reset_less_int64.f (k : Nat) (l0 : List (S26)) (l1 : List (S26)) : Option (Int × Bool) := reset_less_int64.l0 k l1 0 l0 (l0.length : Int) 0
set_option maxHeartbeats 8000000 in
set_option maxRecDepth 100000 in
theorem reset_less_int64.calls (k : Nat) (A0 : Option Addr) (c0 : Nat) (l0 : List (S26)) (P1_ : Nat → Prop) (A1 : Option Addr) (c1 : Nat) (l1 : List (S26)) (r1 : Int) (r2 : Bool) (w : World) (hr0 : Kd.C k26 w A0 l0.length l0) (hc0 : l0.length ≤ c0) (hs1 : Kd.V k26 26 w w.heap.size (fun k_ => P1_ k_) (.slice A1 l1.length c1) l1) (h : reset_less_int64.f k l0 l1 = some (r1, r2)) :
  Calls Try.prog 175 #[.slice A0 l0.length c0, .slice A1 l1.length c1] w fun e w' => e = .returned (.tuple #[.int .i64 r1, .bool r2]) ∧ Below w.heap.size w w' := by
 have hu26 := Try.underlying26
 have HR0 := Aside0.mk hr0
 have HC0 := Aside0.mk hc0
 clear hr0 hc0
 have HO1 := Aside0.mk (show Kd.V k26 26 w w.heap.size (fun k_ => (P1_ k_ ∨ w.heap.size ≤ k_)) (.slice A1 l1.length c1) l1 from Kd.V_mono hs1 (fun k_ hk => .inl hk))
 have HB := Aside0.mk (Below.refl w.heap.size w)
 have H : (reset_less_int64.l0 k l1 0 l0 (l0.length : Int) 0) = some (r1, r2) := h
 clear h
 have H' := Aside0.mk H
 clear H
 go_enter Try.func175, Try.ntmps175
 go_wp2
 repeat (go_quiet (fail); try go_wp2)
 go_loopg [1, 12] k (fun kq v1 v12 w' => ∃ (x1_1 : List (S26)) (x12_1 : Int), v12 = .int .i64 x12_1 ∧ Aside0 (reset_less_int64.l0 kq x1_1 0 l0 (l0.length : Int) x12_1 = some (r1, r2)) ∧ Aside0 (kq ≤ k) ∧ Aside0 (Kd.V k26 26 w' w.heap.size (fun k_ => (P1_ k_ ∨ w.heap.size ≤ k_)) v1 x1_1) ∧ Aside0 (Below w.heap.size w w'))
 case atStart => exact ⟨(l1), (0), (by first | rfl | (simp; done) | (simp [*]; done)), H', ⟨Nat.le_refl _⟩, ⟨by (with_reducible repeat (first | apply Kd.V_alloc | apply Kd.V_drewN | apply Kd.V_drew)); exact HO1.out⟩, ⟨by repeat (first | (with_reducible first | exact HB.out | apply below_alloc | apply pw_below_drewN | apply below_drew1) | exact HB.out)⟩⟩
 case round =>
  clear H'
  try clear c1
  try clear p2
  obtain ⟨x1_1, x12_1, rfl, HA, HK1, HO_1, HB⟩ := hrel
  cases gk with
  | zero => exact absurd HA.out (by simp [reset_less_int64.l0])
  | succ k1 =>
   have H := HA.out
   clear HA
   simp only [reset_less_int64.l0] at H
   by_cases c3 : x12_1 < (l0.length : Int)
   ·rw [if_pos c3] at H
    have c3b0 : decide (x12_1 < (l0.length : Int)) = true := decide_eq_true c3
    clear c3
    by_cases c4 : 0 ≤ x12_1
    ·rw [if_pos c4] at H
     have c4b0 : decide (0 ≤ x12_1) = true := decide_eq_true c4
     clear c4
     by_cases c5 : x12_1 < (l0.length : Int)
     ·rw [if_pos c5] at H
      have c5b0 : decide (x12_1 < (l0.length : Int)) = true := decide_eq_true c5
      clear c5
      have HC6 := Aside0.mk H
      clear H
      have p101 : 0 ≤ (x12_1 : Int) := of_decide_eq_true (by first | (with_reducible assumption) | assumption)
      have q101 : x12_1 < (l0.length : Int) := of_decide_eq_true (by first | (with_reducible assumption) | assumption)
      obtain ⟨ad101, e101, hx101_0, hx101_1⟩ := at_T26 HR0.out x12_1 p101 q101
      cases e101
      replace hx101_0 := (HB.out.cell (World.block_lt_of_cell? w _ hx101_0)).trans hx101_0
      replace hx101_1 := (HB.out.cell (World.block_lt_of_cell? w _ hx101_1)).trans hx101_1
      replace p101 := eq_true p101
      replace q101 := eq_true q101
      go_upto_block 2 with (first | ((with_reducible refine gate_dst (N := 8) rfl ?_); refine box_event ?hg (N := 8) ?hd (cs := #[.int .i64 0, .int .i64 0]) (t := 26) ?hr ?_; (case hd => rfl); (case hg => rfl); (case hr => first | (go_simp; done) | (go_simp; rfl)); intro gb102 hg w7 hbox hb; have n0_ := Aside0.mk (Kd.V_below (Kd.V_elderB (by (with_reducible repeat (first | apply Kd.V_alloc | apply Kd.V_drewN | apply Kd.V_drew)); exact HO_1.out) gb102 (Nat.le_of_eq hg.symm)) hb); have n1_ := Aside0.mk (below_step (by repeat (first | (with_reducible first | exact HB.out | apply below_alloc | apply pw_below_drewN | apply below_drew1) | exact HB.out)) hb); have n2_ := Aside0.mk (hbox); have n3_ := Aside0.mk ((by rw [hg]; exact (below_size (by repeat (first | (with_reducible first | exact HB.out | apply below_alloc | apply pw_below_drewN | apply below_drew1) | exact HB.out))) : w.heap.size ≤ gb102)); have n4_ := Aside0.mk ((by rw [hg]; exact (below_size (by repeat (first | (with_reducible first | exact HB.out | apply below_alloc | apply pw_below_drewN | apply below_drew1) | exact HB.out))) : w.heap.size ≤ gb102)); clear HO_1; clear HB; have HO_1 := n0_; have HB := n1_; have BK102 := n2_; have GW102 := n3_; have GE102 := n4_; clear n0_ n1_ n2_ n3_ n4_; clear hb hbox hg; have hcz8_0 : w7.cell? ⟨gb102, 0, none⟩ = some (.int .i64 0) := (blk_cell BK102.out 0).trans rfl; have hcz8_1 : w7.cell? ⟨gb102, 1, none⟩ = some (.int .i64 0) := (blk_cell BK102.out 1).trans rfl; have hfz8_0 := blk_frozen BK102.out 0; have hfz8_1 := blk_frozen BK102.out 1))
      repeat (go_quiet (first | ((with_reducible refine gate_dst (N := 8) rfl ?_); refine box_event ?hg (N := 8) ?hd (cs := #[.int .i64 0, .int .i64 0]) (t := 26) ?hr ?_; (case hd => rfl); (case hg => rfl); (case hr => first | (go_simp; done) | (go_simp; rfl)); intro gb102 hg w7 hbox hb; have n0_ := Aside0.mk (Kd.V_below (Kd.V_elderB (by (with_reducible repeat (first | apply Kd.V_alloc | apply Kd.V_drewN | apply Kd.V_drew)); exact HO_1.out) gb102 (Nat.le_of_eq hg.symm)) hb); have n1_ := Aside0.mk (below_step (by repeat (first | (with_reducible first | exact HB.out | apply below_alloc | apply pw_below_drewN | apply below_drew1) | exact HB.out)) hb); have n2_ := Aside0.mk (hbox); have n3_ := Aside0.mk ((by rw [hg]; exact (below_size (by repeat (first | (with_reducible first | exact HB.out | apply below_alloc | apply pw_below_drewN | apply below_drew1) | exact HB.out))) : w.heap.size ≤ gb102)); have n4_ := Aside0.mk ((by rw [hg]; exact (below_size (by repeat (first | (with_reducible first | exact HB.out | apply below_alloc | apply pw_below_drewN | apply below_drew1) | exact HB.out))) : w.heap.size ≤ gb102)); clear HO_1; clear HB; have HO_1 := n0_; have HB := n1_; have BK102 := n2_; have GW102 := n3_; have GE102 := n4_; clear n0_ n1_ n2_ n3_ n4_; clear hb hbox hg; have hcz8_0 : w7.cell? ⟨gb102, 0, none⟩ = some (.int .i64 0) := (blk_cell BK102.out 0).trans rfl; have hcz8_1 : w7.cell? ⟨gb102, 1, none⟩ = some (.int .i64 0) := (blk_cell BK102.out 1).trans rfl; have hfz8_0 := blk_frozen BK102.out 0; have hfz8_1 := blk_frozen BK102.out 1)); go_upto_block 2 with (first | ((with_reducible refine gate_dst (N := 8) rfl ?_); refine box_event ?hg (N := 8) ?hd (cs := #[.int .i64 0, .int .i64 0]) (t := 26) ?hr ?_; (case hd => rfl); (case hg => rfl); (case hr => first | (go_simp; done) | (go_simp; rfl)); intro gb102 hg w7 hbox hb; have n0_ := Aside0.mk (Kd.V_below (Kd.V_elderB (by (with_reducible repeat (first | apply Kd.V_alloc | apply Kd.V_drewN | apply Kd.V_drew)); exact HO_1.out) gb102 (Nat.le_of_eq hg.symm)) hb); have n1_ := Aside0.mk (below_step (by repeat (first | (with_reducible first | exact HB.out | apply below_alloc | apply pw_below_drewN | apply below_drew1) | exact HB.out)) hb); have n2_ := Aside0.mk (hbox); have n3_ := Aside0.mk ((by rw [hg]; exact (below_size (by repeat (first | (with_reducible first | exact HB.out | apply below_alloc | apply pw_below_drewN | apply below_drew1) | exact HB.out))) : w.heap.size ≤ gb102)); have n4_ := Aside0.mk ((by rw [hg]; exact (below_size (by repeat (first | (with_reducible first | exact HB.out | apply below_alloc | apply pw_below_drewN | apply below_drew1) | exact HB.out))) : w.heap.size ≤ gb102)); clear HO_1; clear HB; have HO_1 := n0_; have HB := n1_; have BK102 := n2_; have GW102 := n3_; have GE102 := n4_; clear n0_ n1_ n2_ n3_ n4_; clear hb hbox hg; have hcz8_0 : w7.cell? ⟨gb102, 0, none⟩ = some (.int .i64 0) := (blk_cell BK102.out 0).trans rfl; have hcz8_1 : w7.cell? ⟨gb102, 1, none⟩ = some (.int .i64 0) := (blk_cell BK102.out 1).trans rfl; have hfz8_0 := blk_frozen BK102.out 0; have hfz8_1 := blk_frozen BK102.out 1)))
      (try simp only [Act.put, List.setIfInBounds_toArray, List.set_cons_zero, List.set_cons_succ])
      go_cut [1] (fun v1 wc => ∃ (kq : Nat) (x1_5 : List (S26)), Aside0 (reset_less_int64.j2 kq x1_5 0 l0 (l0.length : Int) x12_1 ((rd_T26 l0 x12_1).f0) ((rd_T26 l0 x12_1).f1) = some (r1, r2)) ∧ Aside0 (kq ≤ k1) ∧ Aside0 (Kd.V k26 26 wc w.heap.size (fun k_ => (P1_ k_ ∨ w.heap.size ≤ k_) ∧ k_ ≠ gb102) v1 x1_5) ∧ Aside0 (wc.heap[gb102]? = some (.cells #[.int .i64 ((rd_T26 l0 x12_1).f0), .int .i64 ((rd_T26 l0 x12_1).f1)] 26 (0, 0))) ∧ Aside0 (Below w.heap.size w wc))
      case first =>
       have H := HC6.out
       clear HC6
       have H' := Aside0.mk H
       clear H
       go_wp2
       repeat (go_quiet (fail); try go_wp2)
       go_loopg [1] k1 (fun kq v1 w' => ∃ (x1_2 : List (S26)), Aside0 (reset_less_int64.l1 kq x1_2 0 l0 (l0.length : Int) x12_1 ((rd_T26 l0 x12_1).f0) ((rd_T26 l0 x12_1).f1) = some (r1, r2)) ∧ Aside0 (kq ≤ k1) ∧ Aside0 (Kd.V k26 26 w' w.heap.size (fun k_ => (P1_ k_ ∨ w.heap.size ≤ k_) ∧ k_ ≠ gb102) v1 x1_2) ∧ Aside0 (w'.heap[gb102]? = some (.cells #[.int .i64 ((rd_T26 l0 x12_1).f0), .int .i64 ((rd_T26 l0 x12_1).f1)] 26 (0, 0))) ∧ Aside0 (Below w.heap.size w w'))
       case atStart => exact ⟨(x1_1), H', ⟨Nat.le_refl _⟩, ⟨by (with_reducible repeat (first | apply Kd.V_alloc | apply Kd.V_drewN | apply Kd.V_drew)); exact Kd.V_mono (Kd.V_far (p := ⟨gb102, 1, none⟩) (Kd.V_far (p := ⟨gb102, 0, none⟩) (Kd.V_mono HO_1.out (fun k_ hk => (⟨hk, hk.2⟩ : _ ∧ k_ ≠ gb102))) (fun _ hk => hk.2) (.int .i64 ((rd_T26 l0 x12_1).f0))) (fun _ hk => hk.2) (.int .i64 ((rd_T26 l0 x12_1).f1))) (fun _ hk => ⟨hk.1.1, hk.1.2⟩)⟩, ⟨by (with_reducible repeat (first | refine blk_drewN ?_ _ | refine blk_drew ?_ | refine blk_alloc ?_ _)); refine blk_put (cs := #[.int .i64 ((rd_T26 l0 x12_1).f0), .int .i64 0]) ?_ 1 _ rfl; (with_reducible repeat (first | refine blk_drewN ?_ _ | refine blk_drew ?_ | refine blk_alloc ?_ _)); refine blk_put (cs := #[.int .i64 0, .int .i64 0]) ?_ 0 _ rfl; (with_reducible repeat (first | refine blk_drewN ?_ _ | refine blk_drew ?_ | refine blk_alloc ?_ _)); exact BK102.out⟩, ⟨by repeat (first | (with_reducible first | exact HB.out | apply below_alloc | apply pw_below_drewN | apply below_drew1 | refine below_set ?_ GE102.out) | exact HB.out)⟩⟩
       case round =>
        clear H'
        try clear c1
        try clear p1
        try clear q1
        try clear hx1
        try clear p2
        try clear c3
        try clear c3b0
        try clear c4
        try clear c4b0
        try clear c5
        try clear c5b0
        try clear hcz8_0
        try clear hcz8_1
        try clear hfz8_0
        try clear hfz8_1
        try clear hx101_0
        try clear hx101_1
        try clear p101
        try clear p2
        try clear q101
        obtain ⟨x1_2, HA, HK2, HO_1, BK102, HB⟩ := hrel
        cases gk with
        | zero => exact absurd HA.out (by simp [reset_less_int64.l1])
        | succ k2 =>
         have H := HA.out
         clear HA
         simp only [reset_less_int64.l1] at H
         by_cases c9 : (x1_2.length : Int) > 0
         ·rw [if_pos c9] at H
          have c9b0 : decide (0 < (x1_2.length : Int)) = true := decide_eq_true c9
          have c9b1 : decide (0 < x1_2.length) = true := decide_eq_true (by omega)
          clear c9
          (first | rw [c9b0] | (simp only [i64_w, i32_w]; rw [c9b0]) | skip)
          by_cases c10 : 0 < (x1_2.length : Int)
          ·rw [if_pos c10] at H
           have c10b0 : decide (0 < (x1_2.length : Int)) = true := decide_eq_true c10
           have c10b1 : decide (0 < x1_2.length) = true := decide_eq_true (by omega)
           clear c10
           by_cases c11 : ((rd_T26 x1_2 0).f0) < ((rd_T26 l0 x12_1).f0)
           ·rw [if_pos c11] at H
            have c11b0 : decide (((rd_T26 x1_2 0).f0) < ((rd_T26 l0 x12_1).f0)) = true := decide_eq_true c11
            clear c11
            by_cases c12 : 1 ≤ (x1_2.length : Int)
            ·rw [if_pos c12] at H
             have c12b0 := eq_true c12
             have c12b1 : decide (1 ≤ (x1_2.length : Int)) = true := decide_eq_true c12
             clear c12
             obtain ⟨y104, hy104⟩ : ∃ y_ : List (S26), y_ = (x1_2.drop 1) := ⟨_, rfl⟩
             replace H : (reset_less_int64.l1 k2 y104 0 l0 (l0.length : Int) x12_1 ((rd_T26 l0 x12_1).f0) ((rd_T26 l0 x12_1).f1)) = some (r1, r2) := by first | (rw [hy104]; with_reducible exact H) | (have H2_ := (Option.bind_some _ _).symm.trans H; rw [hy104]; with_reducible exact H2_) | (have H2_ := (Option.bind_some _ _).symm.trans H; with_reducible exact H2_) | with_reducible exact H | (rw [hy104]; exact H) | exact H
             have Ny104 := Aside0.mk hy104
             clear hy104
             have H' := Aside0.mk H
             clear H
             obtain ⟨Ao13, co13, eo13⟩ := Kd.V_slice HO_1.out
             subst eo13
             have p103 : 0 ≤ (0 : Int) := (by omega)
             have q103 : 0 < (x1_2.length : Int) := of_decide_eq_true (by first | (with_reducible assumption) | assumption)
             obtain ⟨ad103, e103, hx103_0, hx103_1⟩ := at_T26 (Kd.V_reads' HO_1.out).2.2 0 p103 q103
             cases e103
             have qi103 : (0 < x1_2.length) = True := eq_true (by omega)
             (try rw [show ((0 : Int)).toNat = 0 from rfl] at hx103_0)
             (try rw [show 0 * 2 = 0 from rfl] at hx103_0)
             (try rw [Addr.add_zero'] at hx103_0)
             (try rw [show ((0 : Int)).toNat = 0 from rfl] at hx103_1)
             (try rw [show 0 * 2 = 0 from rfl] at hx103_1)
             (try rw [Addr.add_zero'] at hx103_1)
             replace p103 := eq_true p103
             replace q103 := eq_true q103
             have hcz14_0 : wr.cell? ⟨gb102, 0, none⟩ = some (.int .i64 ((rd_T26 l0 x12_1).f0)) := (blk_cell BK102.out 0).trans rfl
             have hcz14_1 : wr.cell? ⟨gb102, 1, none⟩ = some (.int .i64 ((rd_T26 l0 x12_1).f1)) := (blk_cell BK102.out 1).trans rfl
             have hfz14_0 := blk_frozen BK102.out 0
             have hfz14_1 := blk_frozen BK102.out 1
             have q15 : (1 : Int) ≤ ((x1_2.length : Int) : Int) := of_decide_eq_true (by first | (with_reducible assumption) | assumption)
             obtain ⟨i015, hi015, _, hsz15, _⟩ := info_parts info26
             have hroom15 : x1_2.length ≤ co13 := (Kd.V_reads' HO_1.out).2.1
             have hC15 : Kd.F k26 _ _ (some ad103) x1_2.length x1_2 := (Kd.V_at (base := w.heap.size) HO_1.out).2.2
             have hcut15 := cut_from (P := Try.prog) 22 26 .i64 Try.underlying22 hi015 2 hsz15 (some ad103) x1_2.length co13 1 (by omega) q15
             have hr15 := Kd.F_cut (m := (1 : Int).toNat) (c := co13) hC15 (by omega) hroom15
             obtain ⟨A15, hA15⟩ : ∃ A1, A1 = (if co13 = (1 : Int).toNat then (some ad103) else ((some ad103) : Option Addr).map (·.add ((1 : Int).toNat * 2))) := ⟨_, rfl⟩
             obtain ⟨c15, hc15⟩ : ∃ c1, c1 = co13 - (1 : Int).toNat := ⟨_, rfl⟩
             have hy15 : y104.length = x1_2.length - (1 : Int).toNat := (by rw [Ny104.out, List.length_drop] <;> omega)
             rw [show (x1_2).drop (1 : Int).toNat = y104 from Ny104.out.symm] at hr15
             replace hr15 : Kd.F k26 _ _ A15 y104.length y104 := (by rw [hA15]; exact hr15)
             rw [← hy15, ← hA15, ← hc15] at hcut15
             have HO108 := Aside0.mk (show Kd.V k26 26 _ w.heap.size _ (.slice A15 y104.length c15) y104 from Kd.V_mk (by rw [hy15, hc15]; exact Nat.sub_le_sub_right hroom15 _) hr15)
             have HC108 := Aside0.mk (show y104.length ≤ c15 from by rw [hy15, hc15]; exact Nat.sub_le_sub_right hroom15 _)
             clear hr15 hC15 hroom15 hi015 hsz15 hc15
             have KY15 := Aside0.mk hy15
             have KA15 := Aside0.mk hA15
             clear hy15 hA15
             replace q15 := eq_true q15
             go_wp2
             repeat (go_quiet (fail); try go_wp2)
             go_roundg k2
             case measure => have := HK1.out; have := HK2.out; omega
             case rel => exact ⟨(y104), H', ⟨by have := HK1.out; have := HK2.out; omega⟩, ⟨by (with_reducible repeat (first | apply Kd.V_alloc | apply Kd.V_drewN | apply Kd.V_drew)); exact HO108.out⟩, ⟨by (with_reducible repeat (first | refine blk_drewN ?_ _ | refine blk_drew ?_ | refine blk_alloc ?_ _)); exact BK102.out⟩, ⟨by repeat (first | (with_reducible first | exact HB.out | apply below_alloc | apply pw_below_drewN | apply below_drew1 | refine below_set ?_ GE102.out) | exact HB.out)⟩⟩
            ·rw [if_neg c12] at H
             exact absurd H (by simp)
           ·rw [if_neg c11] at H
            have c11b0 : decide (((rd_T26 x1_2 0).f0) < ((rd_T26 l0 x12_1).f0)) = false := decide_eq_false c11
            clear c11
            have H' := Aside0.mk H
            clear H
            obtain ⟨Ao16, co16, eo16⟩ := Kd.V_slice HO_1.out
            subst eo16
            have p103 : 0 ≤ (0 : Int) := (by omega)
            have q103 : 0 < (x1_2.length : Int) := of_decide_eq_true (by first | (with_reducible assumption) | assumption)
            obtain ⟨ad103, e103, hx103_0, hx103_1⟩ := at_T26 (Kd.V_reads' HO_1.out).2.2 0 p103 q103
            cases e103
            have qi103 : (0 < x1_2.length) = True := eq_true (by omega)
            (try rw [show ((0 : Int)).toNat = 0 from rfl] at hx103_0)
            (try rw [show 0 * 2 = 0 from rfl] at hx103_0)
            (try rw [Addr.add_zero'] at hx103_0)
            (try rw [show ((0 : Int)).toNat = 0 from rfl] at hx103_1)
            (try rw [show 0 * 2 = 0 from rfl] at hx103_1)
            (try rw [Addr.add_zero'] at hx103_1)
            replace p103 := eq_true p103
            replace q103 := eq_true q103
            have hcz17_0 : wr.cell? ⟨gb102, 0, none⟩ = some (.int .i64 ((rd_T26 l0 x12_1).f0)) := (blk_cell BK102.out 0).trans rfl
            have hcz17_1 : wr.cell? ⟨gb102, 1, none⟩ = some (.int .i64 ((rd_T26 l0 x12_1).f1)) := (blk_cell BK102.out 1).trans rfl
            have hfz17_0 := blk_frozen BK102.out 0
            have hfz17_1 := blk_frozen BK102.out 1
            go_wp2
            repeat (go_quiet (fail); try go_wp2)
            go_meet
            case rel => exact ⟨_, (x1_2), H', ⟨by have := HK1.out; have := HK2.out; first | omega | exact Nat.le_refl _⟩, ⟨by (with_reducible repeat (first | apply Kd.V_alloc | apply Kd.V_drewN | apply Kd.V_drew)); exact HO_1.out⟩, ⟨by (with_reducible repeat (first | refine blk_drewN ?_ _ | refine blk_drew ?_ | refine blk_alloc ?_ _)); exact BK102.out⟩, ⟨by repeat (first | (with_reducible first | exact HB.out | apply below_alloc | apply pw_below_drewN | apply below_drew1 | refine below_set ?_ GE102.out) | exact HB.out)⟩⟩
          ·rw [if_neg c10] at H
           exact absurd H (by simp)
         ·rw [if_neg c9] at H
          have c9b0 : decide (0 < (x1_2.length : Int)) = false := decide_eq_false c9
          have c9b1 : decide (0 < x1_2.length) = false := decide_eq_false (by omega)
          clear c9
          (first | rw [c9b0] | (simp only [i64_w, i32_w]; rw [c9b0]) | skip)
          have H' := Aside0.mk H
          clear H
          obtain ⟨Ao18, co18, eo18⟩ := Kd.V_slice HO_1.out
          subst eo18
          go_wp2
          repeat (go_quiet (fail); try go_wp2)
          go_meet
          case rel => exact ⟨_, (x1_2), H', ⟨by have := HK1.out; have := HK2.out; first | omega | exact Nat.le_refl _⟩, ⟨by (with_reducible repeat (first | apply Kd.V_alloc | apply Kd.V_drewN | apply Kd.V_drew)); exact HO_1.out⟩, ⟨by (with_reducible repeat (first | refine blk_drewN ?_ _ | refine blk_drew ?_ | refine blk_alloc ?_ _)); exact BK102.out⟩, ⟨by repeat (first | (with_reducible first | exact HB.out | apply below_alloc | apply pw_below_drewN | apply below_drew1 | refine below_set ?_ GE102.out) | exact HB.out)⟩⟩
      case rest =>
       clear HC6
       try clear c1
       try clear p1
       try clear q1
       try clear hx1
       try clear qi1
       try clear p2
       try clear c3
       try clear c3b0
       try clear c4
       try clear c4b0
       try clear c5
       try clear c5b0
       try clear c9
       try clear c9b0
       try clear c9b1
       try clear c10
       try clear c10b0
       try clear c10b1
       try clear p10
       try clear q10
       try clear hx10
       try clear qi10
       try clear c11
       try clear c11b0
       try clear c12
       try clear c12b0
       try clear c12b1
       try clear c15
       try clear q15
       try clear c17
       try clear hcz14_0
       try clear hcz14_1
       try clear hcz17_0
       try clear hcz17_1
       try clear hcz8_0
       try clear hcz8_1
       try clear hfz14_0
       try clear hfz14_1
       try clear hfz17_0
       try clear hfz17_1
       try clear hfz8_0
       try clear hfz8_1
       try clear hx101_0
       try clear hx101_1
       try clear hx103_0
       try clear hx103_1
       try clear p1
       try clear p101
       try clear p103
       try clear p2
       try clear q1
       try clear q101
       try clear q103
       try clear q15
       obtain ⟨kq, x1_5, HA, HJ5, HO_1, BK102, HB⟩ := hcut
       cases kq with
       | zero => exact absurd HA.out (by simp [reset_less_int64.j2])
       | succ kj5 =>
        have H := HA.out
        clear HA
        simp only [reset_less_int64.j2] at H
        have HC19 := Aside0.mk H
        clear H
        go_upto_region 8 with (fail)
        repeat (go_quiet (fail); go_upto_region 8 with (fail))
        go_cut [42] (fun v42 wc => ∃ (kq : Nat) (x42_18 : Bool), v42 = .bool x42_18 ∧ Aside0 (reset_less_int64.j3 kq x1_5 0 0 l0 (l0.length : Int) x12_1 x42_18 ((rd_T26 l0 x12_1).f0) ((rd_T26 l0 x12_1).f1) = some (r1, r2)) ∧ Aside0 (kq ≤ kj5) ∧ Aside0 (Kd.V k26 26 wc w.heap.size (fun k_ => (P1_ k_ ∨ w.heap.size ≤ k_) ∧ k_ ≠ gb102) u1 x1_5) ∧ Aside0 (wc.heap[gb102]? = some (.cells #[.int .i64 ((rd_T26 l0 x12_1).f0), .int .i64 ((rd_T26 l0 x12_1).f1)] 26 (0, 0))) ∧ Aside0 (Below w.heap.size w wc))
        case first =>
         have H := HC19.out
         clear HC19
         by_cases c20 : (x1_5.length : Int) > 0
         ·rw [if_pos c20] at H
          have c20b0 : decide (0 < (x1_5.length : Int)) = true := decide_eq_true c20
          have c20b1 : decide (0 < x1_5.length) = true := decide_eq_true (by omega)
          clear c20
          (first | rw [c20b0] | (simp only [i64_w, i32_w]; rw [c20b0]) | skip)
          by_cases c21 : 0 < (x1_5.length : Int)
          ·rw [if_pos c21] at H
           have c21b0 : decide (0 < (x1_5.length : Int)) = true := decide_eq_true c21
           have c21b1 : decide (0 < x1_5.length) = true := decide_eq_true (by omega)
           clear c21
           have H' := Aside0.mk H
           clear H
           obtain ⟨Ao22, co22, eo22⟩ := Kd.V_slice HO_1.out
           subst eo22
           have p109 : 0 ≤ (0 : Int) := (by omega)
           have q109 : 0 < (x1_5.length : Int) := of_decide_eq_true (by first | (with_reducible assumption) | assumption)
           obtain ⟨ad109, e109, hx109_0, hx109_1⟩ := at_T26 (Kd.V_reads' HO_1.out).2.2 0 p109 q109
           cases e109
           have qi109 : (0 < x1_5.length) = True := eq_true (by omega)
           (try rw [show ((0 : Int)).toNat = 0 from rfl] at hx109_0)
           (try rw [show 0 * 2 = 0 from rfl] at hx109_0)
           (try rw [Addr.add_zero'] at hx109_0)
           (try rw [show ((0 : Int)).toNat = 0 from rfl] at hx109_1)
           (try rw [show 0 * 2 = 0 from rfl] at hx109_1)
           (try rw [Addr.add_zero'] at hx109_1)
           replace p109 := eq_true p109
           replace q109 := eq_true q109
           have hcz23_0 : wc.cell? ⟨gb102, 0, none⟩ = some (.int .i64 ((rd_T26 l0 x12_1).f0)) := (blk_cell BK102.out 0).trans rfl
           have hcz23_1 : wc.cell? ⟨gb102, 1, none⟩ = some (.int .i64 ((rd_T26 l0 x12_1).f1)) := (blk_cell BK102.out 1).trans rfl
           have hfz23_0 := blk_frozen BK102.out 0
           have hfz23_1 := blk_frozen BK102.out 1
           go_wp2
           repeat (go_quiet (fail); try go_wp2)
           go_meet
           case rel => exact ⟨_, ((((rd_T26 x1_5 0).f0) == ((rd_T26 l0 x12_1).f0))), (by first | rfl | (simp; done) | (simp [*]; done)), H', ⟨by have := HK1.out; have := HJ5.out; first | omega | exact Nat.le_refl _⟩, ⟨by (with_reducible repeat (first | apply Kd.V_alloc | apply Kd.V_drewN | apply Kd.V_drew)); exact HO_1.out⟩, ⟨by (with_reducible repeat (first | refine blk_drewN ?_ _ | refine blk_drew ?_ | refine blk_alloc ?_ _)); exact BK102.out⟩, ⟨by repeat (first | (with_reducible first | exact HB.out | apply below_alloc | apply pw_below_drewN | apply below_drew1 | refine below_set ?_ GE102.out) | exact HB.out)⟩⟩
          ·rw [if_neg c21] at H
           exact absurd H (by simp)
         ·rw [if_neg c20] at H
          have c20b0 : decide (0 < (x1_5.length : Int)) = false := decide_eq_false c20
          have c20b1 : decide (0 < x1_5.length) = false := decide_eq_false (by omega)
          clear c20
          (first | rw [c20b0] | (simp only [i64_w, i32_w]; rw [c20b0]) | skip)
          have H' := Aside0.mk H
          clear H
          obtain ⟨Ao24, co24, eo24⟩ := Kd.V_slice HO_1.out
          subst eo24
          go_wp2
          repeat (go_quiet (fail); try go_wp2)
          go_meet
          case rel => exact ⟨_, (false), (by first | rfl | (simp; done) | (simp [*]; done)), H', ⟨by have := HK1.out; have := HJ5.out; first | omega | exact Nat.le_refl _⟩, ⟨by (with_reducible repeat (first | apply Kd.V_alloc | apply Kd.V_drewN | apply Kd.V_drew)); exact HO_1.out⟩, ⟨by (with_reducible repeat (first | refine blk_drewN ?_ _ | refine blk_drew ?_ | refine blk_alloc ?_ _)); exact BK102.out⟩, ⟨by repeat (first | (with_reducible first | exact HB.out | apply below_alloc | apply pw_below_drewN | apply below_drew1 | refine below_set ?_ GE102.out) | exact HB.out)⟩⟩
        case rest =>
         clear HC19
         try clear c1
         try clear p1
         try clear q1
         try clear hx1
         try clear qi1
         try clear c2
         try clear p2
         try clear c3
         try clear c3b0
         try clear c4
         try clear c4b0
         try clear c5
         try clear c5b0
         try clear c9
         try clear c9b0
         try clear c9b1
         try clear c10
         try clear c10b0
         try clear c10b1
         try clear p10
         try clear q10
         try clear hx10
         try clear qi10
         try clear c11
         try clear c11b0
         try clear c12
         try clear c12b0
         try clear c12b1
         try clear c15
         try clear q15
         try clear c17
         try clear c20
         try clear c20b0
         try clear c20b1
         try clear c21
         try clear c21b0
         try clear c21b1
         try clear hcz14_0
         try clear hcz14_1
         try clear hcz17_0
         try clear hcz17_1
         try clear hcz23_0
         try clear hcz23_1
         try clear hcz8_0
         try clear hcz8_1
         try clear hfz14_0
         try clear hfz14_1
         try clear hfz17_0
         try clear hfz17_1
         try clear hfz23_0
         try clear hfz23_1
         try clear hfz8_0
         try clear hfz8_1
         try clear hx101_0
         try clear hx101_1
         try clear hx103_0
         try clear hx103_1
         try clear hx109_0
         try clear hx109_1
         try clear p1
         try clear p10
         try clear p101
         try clear p103
         try clear p109
         try clear p2
         try clear q1
         try clear q10
         try clear q101
         try clear q103
         try clear q109
         try clear q15
         obtain ⟨kq, x42_18, rfl, HA, HJ18, HO_1, BK102, HB⟩ := hcut
         cases kq with
         | zero => exact absurd HA.out (by simp [reset_less_int64.j3])
         | succ kj18 =>
          have H := HA.out
          clear HA
          simp only [reset_less_int64.j3] at H
          by_cases c25 : x42_18 = true
          ·subst c25
           have H1 : (if 0 < (x1_5.length : Int) then (if ((rd_T26 x1_5 0).f1) < ((rd_T26 l0 x12_1).f1) then (some (((rd_T26 l0 x12_1).f0), true)) else (reset_less_int64.l0 kj18 x1_5 0 l0 (l0.length : Int) (wrap64 (x12_1 + 1)))) else (none)) = some (r1, r2) := by rw [if_pos rfl] at H; exact H
           clear H
           have H := H1
           clear H1
           by_cases c26 : 0 < (x1_5.length : Int)
           ·rw [if_pos c26] at H
            have c26b0 : decide (0 < (x1_5.length : Int)) = true := decide_eq_true c26
            have c26b1 : decide (0 < x1_5.length) = true := decide_eq_true (by omega)
            clear c26
            by_cases c27 : ((rd_T26 x1_5 0).f1) < ((rd_T26 l0 x12_1).f1)
            ·rw [if_pos c27] at H
             have c27b0 : decide (((rd_T26 x1_5 0).f1) < ((rd_T26 l0 x12_1).f1)) = true := decide_eq_true c27
             clear c27
             simp only [Option.some.injEq, Prod.mk.injEq] at H
             obtain ⟨rfl, rfl⟩ := H
             obtain ⟨Ao28, co28, eo28⟩ := Kd.V_slice HO_1.out
             subst eo28
             have p110 : 0 ≤ (0 : Int) := (by omega)
             have q110 : 0 < (x1_5.length : Int) := of_decide_eq_true (by first | (with_reducible assumption) | assumption)
             obtain ⟨ad110, e110, hx110_0, hx110_1⟩ := at_T26 (Kd.V_reads' HO_1.out).2.2 0 p110 q110
             cases e110
             have qi110 : (0 < x1_5.length) = True := eq_true (by omega)
             (try rw [show ((0 : Int)).toNat = 0 from rfl] at hx110_0)
             (try rw [show 0 * 2 = 0 from rfl] at hx110_0)
             (try rw [Addr.add_zero'] at hx110_0)
             (try rw [show ((0 : Int)).toNat = 0 from rfl] at hx110_1)
             (try rw [show 0 * 2 = 0 from rfl] at hx110_1)
             (try rw [Addr.add_zero'] at hx110_1)
             replace p110 := eq_true p110
             replace q110 := eq_true q110
             have hcz29_0 : wc.cell? ⟨gb102, 0, none⟩ = some (.int .i64 ((rd_T26 l0 x12_1).f0)) := (blk_cell BK102.out 0).trans rfl
             have hcz29_1 : wc.cell? ⟨gb102, 1, none⟩ = some (.int .i64 ((rd_T26 l0 x12_1).f1)) := (blk_cell BK102.out 1).trans rfl
             have hfz29_0 := blk_frozen BK102.out 0
             have hfz29_1 := blk_frozen BK102.out 1
             go_wp2
             repeat (go_quiet (fail); try go_wp2)
             go_ret2
             exact ⟨by first | rfl | (simp [errW_none, errW_some] <;> rfl) | (simp [*, errW_none, errW_some] <;> rfl), by repeat (first | (with_reducible first | exact HB.out | apply below_alloc | apply pw_below_drewN | apply below_drew1 | refine below_set ?_ GE102.out) | exact HB.out)⟩
            ·rw [if_neg c27] at H
             have c27b0 : decide (((rd_T26 x1_5 0).f1) < ((rd_T26 l0 x12_1).f1)) = false := decide_eq_false c27
             clear c27
             have H' := Aside0.mk H
             clear H
             obtain ⟨Ao30, co30, eo30⟩ := Kd.V_slice HO_1.out
             subst eo30
             have p110 : 0 ≤ (0 : Int) := (by omega)
             have q110 : 0 < (x1_5.length : Int) := of_decide_eq_true (by first | (with_reducible assumption) | assumption)
             obtain ⟨ad110, e110, hx110_0, hx110_1⟩ := at_T26 (Kd.V_reads' HO_1.out).2.2 0 p110 q110
             cases e110
             have qi110 : (0 < x1_5.length) = True := eq_true (by omega)
             (try rw [show ((0 : Int)).toNat = 0 from rfl] at hx110_0)
             (try rw [show 0 * 2 = 0 from rfl] at hx110_0)
             (try rw [Addr.add_zero'] at hx110_0)
             (try rw [show ((0 : Int)).toNat = 0 from rfl] at hx110_1)
             (try rw [show 0 * 2 = 0 from rfl] at hx110_1)
             (try rw [Addr.add_zero'] at hx110_1)
             replace p110 := eq_true p110
             replace q110 := eq_true q110
             have hcz31_0 : wc.cell? ⟨gb102, 0, none⟩ = some (.int .i64 ((rd_T26 l0 x12_1).f0)) := (blk_cell BK102.out 0).trans rfl
             have hcz31_1 : wc.cell? ⟨gb102, 1, none⟩ = some (.int .i64 ((rd_T26 l0 x12_1).f1)) := (blk_cell BK102.out 1).trans rfl
             have hfz31_0 := blk_frozen BK102.out 0
             have hfz31_1 := blk_frozen BK102.out 1
             go_wp2
             repeat (go_quiet (fail); try go_wp2)
             go_roundg kj18
             case measure => have := HK1.out; have := HJ5.out; have := HJ18.out; omega
             case rel => exact ⟨(x1_5), (wrap64 (x12_1 + 1)), (by first | rfl | (simp; done) | (simp [*]; done)), H', ⟨by have := HK1.out; have := HJ5.out; have := HJ18.out; omega⟩, ⟨by (with_reducible repeat (first | apply Kd.V_alloc | apply Kd.V_drewN | apply Kd.V_drew)); exact Kd.V_mono HO_1.out (fun _ hk => hk.1)⟩, ⟨by repeat (first | (with_reducible first | exact HB.out | apply below_alloc | apply pw_below_drewN | apply below_drew1 | refine below_set ?_ GE102.out) | exact HB.out)⟩⟩
           ·rw [if_neg c26] at H
            exact absurd H (by simp)
          ·replace c25 := Bool.eq_false_iff.mpr c25
           subst c25
           have H1 : (if 0 < ((rd_T26 l0 x12_1).f1) then (some (((rd_T26 l0 x12_1).f0), true)) else (reset_less_int64.l0 kj18 x1_5 0 l0 (l0.length : Int) (wrap64 (x12_1 + 1)))) = some (r1, r2) := by rw [if_neg (show ¬ (false = true) by decide)] at H; exact H
           clear H
           have H := H1
           clear H1
           by_cases c32 : 0 < ((rd_T26 l0 x12_1).f1)
           ·rw [if_pos c32] at H
            have c32b0 : decide (0 < ((rd_T26 l0 x12_1).f1)) = true := decide_eq_true c32
            clear c32
            simp only [Option.some.injEq, Prod.mk.injEq] at H
            obtain ⟨rfl, rfl⟩ := H
            have hcz33_0 : wc.cell? ⟨gb102, 0, none⟩ = some (.int .i64 ((rd_T26 l0 x12_1).f0)) := (blk_cell BK102.out 0).trans rfl
            have hcz33_1 : wc.cell? ⟨gb102, 1, none⟩ = some (.int .i64 ((rd_T26 l0 x12_1).f1)) := (blk_cell BK102.out 1).trans rfl
            have hfz33_0 := blk_frozen BK102.out 0
            have hfz33_1 := blk_frozen BK102.out 1
            go_wp2
            repeat (go_quiet (fail); try go_wp2)
            go_ret2
            exact ⟨by first | rfl | (simp [errW_none, errW_some] <;> rfl) | (simp [*, errW_none, errW_some] <;> rfl), by repeat (first | (with_reducible first | exact HB.out | apply below_alloc | apply pw_below_drewN | apply below_drew1 | refine below_set ?_ GE102.out) | exact HB.out)⟩
           ·rw [if_neg c32] at H
            have c32b0 : decide (0 < ((rd_T26 l0 x12_1).f1)) = false := decide_eq_false c32
            clear c32
            have H' := Aside0.mk H
            clear H
            have hcz34_0 : wc.cell? ⟨gb102, 0, none⟩ = some (.int .i64 ((rd_T26 l0 x12_1).f0)) := (blk_cell BK102.out 0).trans rfl
            have hcz34_1 : wc.cell? ⟨gb102, 1, none⟩ = some (.int .i64 ((rd_T26 l0 x12_1).f1)) := (blk_cell BK102.out 1).trans rfl
            have hfz34_0 := blk_frozen BK102.out 0
            have hfz34_1 := blk_frozen BK102.out 1
            go_wp2
            repeat (go_quiet (fail); try go_wp2)
            go_roundg kj18
            case measure => have := HK1.out; have := HJ5.out; have := HJ18.out; omega
            case rel => exact ⟨(x1_5), (wrap64 (x12_1 + 1)), (by first | rfl | (simp; done) | (simp [*]; done)), H', ⟨by have := HK1.out; have := HJ5.out; have := HJ18.out; omega⟩, ⟨by (with_reducible repeat (first | apply Kd.V_alloc | apply Kd.V_drewN | apply Kd.V_drew)); exact Kd.V_mono HO_1.out (fun _ hk => hk.1)⟩, ⟨by repeat (first | (with_reducible first | exact HB.out | apply below_alloc | apply pw_below_drewN | apply below_drew1 | refine below_set ?_ GE102.out) | exact HB.out)⟩⟩
     ·rw [if_neg c5] at H
      exact absurd H (by simp)
    ·rw [if_neg c4] at H
     exact absurd H (by simp)
   ·rw [if_neg c3] at H
    have c3b0 : decide (x12_1 < (l0.length : Int)) = false := decide_eq_false c3
    clear c3
    simp only [Option.some.injEq, Prod.mk.injEq] at H
    obtain ⟨rfl, rfl⟩ := H
    go_wp2
    repeat (go_quiet (fail); try go_wp2)
    go_ret2
    exact ⟨by first | rfl | (simp [errW_none, errW_some] <;> rfl) | (simp [*, errW_none, errW_some] <;> rfl), by repeat (first | (with_reducible first | exact HB.out | apply below_alloc | apply pw_below_drewN | apply below_drew1) | exact HB.out)⟩
def reset_heads.f (a0_0 : Int) (a0_1 : Int) (a0_2 : Int) (a0_3 : Int) (a1_0 : Int) (a1_1 : Int) (a1_2 : Int) (a1_3 : Int) : Option (Int) := if a0_0 = a1_0 then (if a0_1 = a1_1 then (if a1_2 < a0_2 then (some 3) else (if a1_3 < a0_3 then (some 4) else (some 0))) else (some 2)) else (some 1)
set_option maxHeartbeats 8000000 in
set_option maxRecDepth 100000 in
theorem reset_heads.calls (a0_0 : Int) (a0_1 : Int) (a0_2 : Int) (a0_3 : Int) (a1_0 : Int) (a1_1 : Int) (a1_2 : Int) (a1_3 : Int) (r : Int) (w : World) (h : reset_heads.f a0_0 a0_1 a0_2 a0_3 a1_0 a1_1 a1_2 a1_3 = some r) :
  Calls Try.prog 137 #[.agg #[.int .i64 a0_0, .int .u64 a0_1, .int .u64 a0_2, .int .u64 a0_3], .agg #[.int .i64 a1_0, .int .u64 a1_1, .int .u64 a1_2, .int .u64 a1_3]] w fun e w' => e = .returned (.int .i64 r) ∧ Below w.heap.size w w' := by
 have hu164 := Try.underlying164
 have HB := Aside0.mk (Below.refl w.heap.size w)
 have H : (if a0_0 = a1_0 then (if a0_1 = a1_1 then (if a1_2 < a0_2 then (some 3) else (if a1_3 < a0_3 then (some 4) else (some 0))) else (some 2)) else (some 1)) = some r := h
 clear h
 by_cases c3 : a0_0 = a1_0
 ·rw [if_pos c3] at H
  have c3b0 : (a0_0 == a1_0) = true := beq_iff_eq.mpr c3
  have c3b1 : (a0_0 != a1_0) = false := bne_eq_false_iff_eq.mpr c3
  clear c3
  by_cases c4 : a0_1 = a1_1
  ·rw [if_pos c4] at H
   have c4b0 : (a0_1 == a1_1) = true := beq_iff_eq.mpr c4
   have c4b1 : (a0_1 != a1_1) = false := bne_eq_false_iff_eq.mpr c4
   clear c4
   by_cases c5 : a1_2 < a0_2
   ·rw [if_pos c5] at H
    have c5b0 : decide (a1_2 < a0_2) = true := decide_eq_true c5
    clear c5
    obtain rfl := Option.some.inj H
    go_enter Try.func137, Try.ntmps137
    go_wp2_with (first | ((with_reducible refine gate_dst (N := 2) rfl ?_); refine box_event ?hg (N := 2) ?hd (cs := #[.int .i64 a0_0, .int .u64 a0_1, .int .u64 a0_2, .int .u64 a0_3]) (t := 164) ?hr ?_; (case hd => rfl); (case hg => rfl); (case hr => first | (go_simp; done) | (go_simp; rfl)); intro gb101 hg w6 hbox hb; have n0_ := Aside0.mk (below_step (by repeat (first | (with_reducible first | exact HB.out | apply below_alloc | apply pw_below_drewN | apply below_drew1) | exact HB.out)) hb); have n1_ := Aside0.mk (hbox); have n2_ := Aside0.mk ((by rw [hg]; exact (below_size (by repeat (first | (with_reducible first | exact HB.out | apply below_alloc | apply pw_below_drewN | apply below_drew1) | exact HB.out))) : w.heap.size ≤ gb101)); have n3_ := Aside0.mk ((by rw [hg]; exact (below_size (by repeat (first | (with_reducible first | exact HB.out | apply below_alloc | apply pw_below_drewN | apply below_drew1) | exact HB.out))) : w.heap.size ≤ gb101)); clear HB; have HB := n0_; have BK101 := n1_; have GW101 := n2_; have GE101 := n3_; clear n0_ n1_ n2_ n3_; clear hb hbox hg) | ((with_reducible refine gate_dst (N := 3) rfl ?_); refine box_event ?hg (N := 3) ?hd (cs := #[.int .i64 a1_0, .int .u64 a1_1, .int .u64 a1_2, .int .u64 a1_3]) (t := 164) ?hr ?_; (case hd => rfl); (case hg => rfl); (case hr => first | (go_simp; done) | (go_simp; rfl)); intro gb102 hg w7 hbox hb; have n0_ := Aside0.mk (blk_below (g := gb101) (o := .cells #[.int .i64 a0_0, .int .u64 a0_1, .int .u64 a0_2, .int .u64 a0_3] 164 (0, 0)) (by (with_reducible repeat (first | refine blk_drewN ?_ _ | refine blk_drew ?_ | refine blk_alloc ?_ _)); exact BK101.out) hb); have n1_ := Aside0.mk (below_step (by repeat (first | (with_reducible first | exact HB.out | apply below_alloc | apply pw_below_drewN | apply below_drew1 | refine below_set ?_ GE101.out) | exact HB.out)) hb); have n2_ := Aside0.mk (hbox); have n3_ := Aside0.mk ((by rw [hg]; exact (below_size (by repeat (first | (with_reducible first | exact HB.out | apply below_alloc | apply pw_below_drewN | apply below_drew1 | refine below_set ?_ GE101.out) | exact HB.out))) : w.heap.size ≤ gb102)); have n4_ := Aside0.mk ((by rw [hg]; exact (below_size (by repeat (first | (with_reducible first | exact HB.out | apply below_alloc | apply pw_below_drewN | apply below_drew1 | refine below_set ?_ GE101.out) | exact HB.out))) : w.heap.size ≤ gb102)); have n5_ := Aside0.mk ((by rw [hg]; exact Nat.ne_of_lt (blk_lt (g := gb101) (o := .cells #[.int .i64 a0_0, .int .u64 a0_1, .int .u64 a0_2, .int .u64 a0_3] 164 (0, 0)) (by (with_reducible repeat (first | refine blk_drewN ?_ _ | refine blk_drew ?_ | refine blk_alloc ?_ _)); exact BK101.out)) : gb101 ≠ gb102)); have n6_ := Aside0.mk ((by rw [hg]; exact Nat.ne_of_gt (blk_lt (g := gb101) (o := .cells #[.int .i64 a0_0, .int .u64 a0_1, .int .u64 a0_2, .int .u64 a0_3] 164 (0, 0)) (by (with_reducible repeat (first | refine blk_drewN ?_ _ | refine blk_drew ?_ | refine blk_alloc ?_ _)); exact BK101.out)) : gb102 ≠ gb101)); clear BK101; clear HB; have BK101 := n0_; have HB := n1_; have BK102 := n2_; have GW102 := n3_; have GE102 := n4_; have NB101_102 := n5_; have NB102_101 := n6_; clear n0_ n1_ n2_ n3_ n4_ n5_ n6_; clear hb hbox hg; have hnb8 := NB101_102.out; have hnc8 := NB102_101.out; have hcz9_0 : w7.cell? ⟨gb101, 0, none⟩ = some (.int .i64 a0_0) := (blk_cell BK101.out 0).trans rfl; have hcz9_1 : w7.cell? ⟨gb101, 1, none⟩ = some (.int .u64 a0_1) := (blk_cell BK101.out 1).trans rfl; have hcz9_2 : w7.cell? ⟨gb101, 2, none⟩ = some (.int .u64 a0_2) := (blk_cell BK101.out 2).trans rfl; have hcz9_3 : w7.cell? ⟨gb101, 3, none⟩ = some (.int .u64 a0_3) := (blk_cell BK101.out 3).trans rfl; have hfz9_0 := blk_frozen BK101.out 0; have hfz9_1 := blk_frozen BK101.out 1; have hfz9_2 := blk_frozen BK101.out 2; have hfz9_3 := blk_frozen BK101.out 3; have hcz10_0 : w7.cell? ⟨gb102, 0, none⟩ = some (.int .i64 a1_0) := (blk_cell BK102.out 0).trans rfl; have hcz10_1 : w7.cell? ⟨gb102, 1, none⟩ = some (.int .u64 a1_1) := (blk_cell BK102.out 1).trans rfl; have hcz10_2 : w7.cell? ⟨gb102, 2, none⟩ = some (.int .u64 a1_2) := (blk_cell BK102.out 2).trans rfl; have hcz10_3 : w7.cell? ⟨gb102, 3, none⟩ = some (.int .u64 a1_3) := (blk_cell BK102.out 3).trans rfl; have hfz10_0 := blk_frozen BK102.out 0; have hfz10_1 := blk_frozen BK102.out 1; have hfz10_2 := blk_frozen BK102.out 2; have hfz10_3 := blk_frozen BK102.out 3))
    go_ret
    exact ⟨by first | rfl | (simp [errW_none, errW_some] <;> rfl) | (simp [*, errW_none, errW_some] <;> rfl), by repeat (first | (with_reducible first | exact HB.out | apply below_alloc | apply pw_below_drewN | apply below_drew1 | refine below_set ?_ GE101.out | refine below_set ?_ GE102.out) | exact HB.out)⟩
   ·rw [if_neg c5] at H
    have c5b0 : decide (a1_2 < a0_2) = false := decide_eq_false c5
    clear c5
    by_cases c11 : a1_3 < a0_3
    ·rw [if_pos c11] at H
     have c11b0 : decide (a1_3 < a0_3) = true := decide_eq_true c11
     clear c11
     obtain rfl := Option.some.inj H
     go_enter Try.func137, Try.ntmps137
     go_wp2_with (first | ((with_reducible refine gate_dst (N := 2) rfl ?_); refine box_event ?hg (N := 2) ?hd (cs := #[.int .i64 a0_0, .int .u64 a0_1, .int .u64 a0_2, .int .u64 a0_3]) (t := 164) ?hr ?_; (case hd => rfl); (case hg => rfl); (case hr => first | (go_simp; done) | (go_simp; rfl)); intro gb101 hg w12 hbox hb; have n0_ := Aside0.mk (below_step (by repeat (first | (with_reducible first | exact HB.out | apply below_alloc | apply pw_below_drewN | apply below_drew1) | exact HB.out)) hb); have n1_ := Aside0.mk (hbox); have n2_ := Aside0.mk ((by rw [hg]; exact (below_size (by repeat (first | (with_reducible first | exact HB.out | apply below_alloc | apply pw_below_drewN | apply below_drew1) | exact HB.out))) : w.heap.size ≤ gb101)); have n3_ := Aside0.mk ((by rw [hg]; exact (below_size (by repeat (first | (with_reducible first | exact HB.out | apply below_alloc | apply pw_below_drewN | apply below_drew1) | exact HB.out))) : w.heap.size ≤ gb101)); clear HB; have HB := n0_; have BK101 := n1_; have GW101 := n2_; have GE101 := n3_; clear n0_ n1_ n2_ n3_; clear hb hbox hg) | ((with_reducible refine gate_dst (N := 3) rfl ?_); refine box_event ?hg (N := 3) ?hd (cs := #[.int .i64 a1_0, .int .u64 a1_1, .int .u64 a1_2, .int .u64 a1_3]) (t := 164) ?hr ?_; (case hd => rfl); (case hg => rfl); (case hr => first | (go_simp; done) | (go_simp; rfl)); intro gb102 hg w13 hbox hb; have n0_ := Aside0.mk (blk_below (g := gb101) (o := .cells #[.int .i64 a0_0, .int .u64 a0_1, .int .u64 a0_2, .int .u64 a0_3] 164 (0, 0)) (by (with_reducible repeat (first | refine blk_drewN ?_ _ | refine blk_drew ?_ | refine blk_alloc ?_ _)); exact BK101.out) hb); have n1_ := Aside0.mk (below_step (by repeat (first | (with_reducible first | exact HB.out | apply below_alloc | apply pw_below_drewN | apply below_drew1 | refine below_set ?_ GE101.out) | exact HB.out)) hb); have n2_ := Aside0.mk (hbox); have n3_ := Aside0.mk ((by rw [hg]; exact (below_size (by repeat (first | (with_reducible first | exact HB.out | apply below_alloc | apply pw_below_drewN | apply below_drew1 | refine below_set ?_ GE101.out) | exact HB.out))) : w.heap.size ≤ gb102)); have n4_ := Aside0.mk ((by rw [hg]; exact (below_size (by repeat (first | (with_reducible first | exact HB.out | apply below_alloc | apply pw_below_drewN | apply below_drew1 | refine below_set ?_ GE101.out) | exact HB.out))) : w.heap.size ≤ gb102)); have n5_ := Aside0.mk ((by rw [hg]; exact Nat.ne_of_lt (blk_lt (g := gb101) (o := .cells #[.int .i64 a0_0, .int .u64 a0_1, .int .u64 a0_2, .int .u64 a0_3] 164 (0, 0)) (by (with_reducible repeat (first | refine blk_drewN ?_ _ | refine blk_drew ?_ | refine blk_alloc ?_ _)); exact BK101.out)) : gb101 ≠ gb102)); have n6_ := Aside0.mk ((by rw [hg]; exact Nat.ne_of_gt (blk_lt (g := gb101) (o := .cells #[.int .i64 a0_0, .int .u64 a0_1, .int .u64 a0_2, .int .u64 a0_3] 164 (0, 0)) (by (with_reducible repeat (first | refine blk_drewN ?_ _ | refine blk_drew ?_ | refine blk_alloc ?_ _)); exact BK101.out)) : gb102 ≠ gb101)); clear BK101; clear HB; have BK101 := n0_; have HB := n1_; have BK102 := n2_; have GW102 := n3_; have GE102 := n4_; have NB101_102 := n5_; have NB102_101 := n6_; clear n0_ n1_ n2_ n3_ n4_ n5_ n6_; clear hb hbox hg; have hnb14 := NB101_102.out; have hnc14 := NB102_101.out; have hcz15_0 : w13.cell? ⟨gb101, 0, none⟩ = some (.int .i64 a0_0) := (blk_cell BK101.out 0).trans rfl; have hcz15_1 : w13.cell? ⟨gb101, 1, none⟩ = some (.int .u64 a0_1) := (blk_cell BK101.out 1).trans rfl; have hcz15_2 : w13.cell? ⟨gb101, 2, none⟩ = some (.int .u64 a0_2) := (blk_cell BK101.out 2).trans rfl; have hcz15_3 : w13.cell? ⟨gb101, 3, none⟩ = some (.int .u64 a0_3) := (blk_cell BK101.out 3).trans rfl; have hfz15_0 := blk_frozen BK101.out 0; have hfz15_1 := blk_frozen BK101.out 1; have hfz15_2 := blk_frozen BK101.out 2; have hfz15_3 := blk_frozen BK101.out 3; have hcz16_0 : w13.cell? ⟨gb102, 0, none⟩ = some (.int .i64 a1_0) := (blk_cell BK102.out 0).trans rfl; have hcz16_1 : w13.cell? ⟨gb102, 1, none⟩ = some (.int .u64 a1_1) := (blk_cell BK102.out 1).trans rfl; have hcz16_2 : w13.cell? ⟨gb102, 2, none⟩ = some (.int .u64 a1_2) := (blk_cell BK102.out 2).trans rfl; have hcz16_3 : w13.cell? ⟨gb102, 3, none⟩ = some (.int .u64 a1_3) := (blk_cell BK102.out 3).trans rfl; have hfz16_0 := blk_frozen BK102.out 0; have hfz16_1 := blk_frozen BK102.out 1; have hfz16_2 := blk_frozen BK102.out 2; have hfz16_3 := blk_frozen BK102.out 3))
     go_ret
     exact ⟨by first | rfl | (simp [errW_none, errW_some] <;> rfl) | (simp [*, errW_none, errW_some] <;> rfl), by repeat (first | (with_reducible first | exact HB.out | apply below_alloc | apply pw_below_drewN | apply below_drew1 | refine below_set ?_ GE101.out | refine below_set ?_ GE102.out) | exact HB.out)⟩
    ·rw [if_neg c11] at H
     have c11b0 : decide (a1_3 < a0_3) = false := decide_eq_false c11
     clear c11
     obtain rfl := Option.some.inj H
     go_enter Try.func137, Try.ntmps137
     go_wp2_with (first | ((with_reducible refine gate_dst (N := 2) rfl ?_); refine box_event ?hg (N := 2) ?hd (cs := #[.int .i64 a0_0, .int .u64 a0_1, .int .u64 a0_2, .int .u64 a0_3]) (t := 164) ?hr ?_; (case hd => rfl); (case hg => rfl); (case hr => first | (go_simp; done) | (go_simp; rfl)); intro gb101 hg w17 hbox hb; have n0_ := Aside0.mk (below_step (by repeat (first | (with_reducible first | exact HB.out | apply below_alloc | apply pw_below_drewN | apply below_drew1) | exact HB.out)) hb); have n1_ := Aside0.mk (hbox); have n2_ := Aside0.mk ((by rw [hg]; exact (below_size (by repeat (first | (with_reducible first | exact HB.out | apply below_alloc | apply pw_below_drewN | apply below_drew1) | exact HB.out))) : w.heap.size ≤ gb101)); have n3_ := Aside0.mk ((by rw [hg]; exact (below_size (by repeat (first | (with_reducible first | exact HB.out | apply below_alloc | apply pw_below_drewN | apply below_drew1) | exact HB.out))) : w.heap.size ≤ gb101)); clear HB; have HB := n0_; have BK101 := n1_; have GW101 := n2_; have GE101 := n3_; clear n0_ n1_ n2_ n3_; clear hb hbox hg) | ((with_reducible refine gate_dst (N := 3) rfl ?_); refine box_event ?hg (N := 3) ?hd (cs := #[.int .i64 a1_0, .int .u64 a1_1, .int .u64 a1_2, .int .u64 a1_3]) (t := 164) ?hr ?_; (case hd => rfl); (case hg => rfl); (case hr => first | (go_simp; done) | (go_simp; rfl)); intro gb102 hg w18 hbox hb; have n0_ := Aside0.mk (blk_below (g := gb101) (o := .cells #[.int .i64 a0_0, .int .u64 a0_1, .int .u64 a0_2, .int .u64 a0_3] 164 (0, 0)) (by (with_reducible repeat (first | refine blk_drewN ?_ _ | refine blk_drew ?_ | refine blk_alloc ?_ _)); exact BK101.out) hb); have n1_ := Aside0.mk (below_step (by repeat (first | (with_reducible first | exact HB.out | apply below_alloc | apply pw_below_drewN | apply below_drew1 | refine below_set ?_ GE101.out) | exact HB.out)) hb); have n2_ := Aside0.mk (hbox); have n3_ := Aside0.mk ((by rw [hg]; exact (below_size (by repeat (first | (with_reducible first | exact HB.out | apply below_alloc | apply pw_below_drewN | apply below_drew1 | refine below_set ?_ GE101.out) | exact HB.out))) : w.heap.size ≤ gb102)); have n4_ := Aside0.mk ((by rw [hg]; exact (below_size (by repeat (first | (with_reducible first | exact HB.out | apply below_alloc | apply pw_below_drewN | apply below_drew1 | refine below_set ?_ GE101.out) | exact HB.out))) : w.heap.size ≤ gb102)); have n5_ := Aside0.mk ((by rw [hg]; exact Nat.ne_of_lt (blk_lt (g := gb101) (o := .cells #[.int .i64 a0_0, .int .u64 a0_1, .int .u64 a0_2, .int .u64 a0_3] 164 (0, 0)) (by (with_reducible repeat (first | refine blk_drewN ?_ _ | refine blk_drew ?_ | refine blk_alloc ?_ _)); exact BK101.out)) : gb101 ≠ gb102)); have n6_ := Aside0.mk ((by rw [hg]; exact Nat.ne_of_gt (blk_lt (g := gb101) (o := .cells #[.int .i64 a0_0, .int .u64 a0_1, .int .u64 a0_2, .int .u64 a0_3] 164 (0, 0)) (by (with_reducible repeat (first | refine blk_drewN ?_ _ | refine blk_drew ?_ | refine blk_alloc ?_ _)); exact BK101.out)) : gb102 ≠ gb101)); clear BK101; clear HB; have BK101 := n0_; have HB := n1_; have BK102 := n2_; have GW102 := n3_; have GE102 := n4_; have NB101_102 := n5_; have NB102_101 := n6_; clear n0_ n1_ n2_ n3_ n4_ n5_ n6_; clear hb hbox hg; have hnb19 := NB101_102.out; have hnc19 := NB102_101.out; have hcz20_0 : w18.cell? ⟨gb101, 0, none⟩ = some (.int .i64 a0_0) := (blk_cell BK101.out 0).trans rfl; have hcz20_1 : w18.cell? ⟨gb101, 1, none⟩ = some (.int .u64 a0_1) := (blk_cell BK101.out 1).trans rfl; have hcz20_2 : w18.cell? ⟨gb101, 2, none⟩ = some (.int .u64 a0_2) := (blk_cell BK101.out 2).trans rfl; have hcz20_3 : w18.cell? ⟨gb101, 3, none⟩ = some (.int .u64 a0_3) := (blk_cell BK101.out 3).trans rfl; have hfz20_0 := blk_frozen BK101.out 0; have hfz20_1 := blk_frozen BK101.out 1; have hfz20_2 := blk_frozen BK101.out 2; have hfz20_3 := blk_frozen BK101.out 3; have hcz21_0 : w18.cell? ⟨gb102, 0, none⟩ = some (.int .i64 a1_0) := (blk_cell BK102.out 0).trans rfl; have hcz21_1 : w18.cell? ⟨gb102, 1, none⟩ = some (.int .u64 a1_1) := (blk_cell BK102.out 1).trans rfl; have hcz21_2 : w18.cell? ⟨gb102, 2, none⟩ = some (.int .u64 a1_2) := (blk_cell BK102.out 2).trans rfl; have hcz21_3 : w18.cell? ⟨gb102, 3, none⟩ = some (.int .u64 a1_3) := (blk_cell BK102.out 3).trans rfl; have hfz21_0 := blk_frozen BK102.out 0; have hfz21_1 := blk_frozen BK102.out 1; have hfz21_2 := blk_frozen BK102.out 2; have hfz21_3 := blk_frozen BK102.out 3))
     go_ret
     exact ⟨by first | rfl | (simp [errW_none, errW_some] <;> rfl) | (simp [*, errW_none, errW_some] <;> rfl), by repeat (first | (with_reducible first | exact HB.out | apply below_alloc | apply pw_below_drewN | apply below_drew1 | refine below_set ?_ GE101.out | refine below_set ?_ GE102.out) | exact HB.out)⟩
  ·rw [if_neg c4] at H
   have c4b0 : (a0_1 == a1_1) = false := beq_eq_false_iff_ne.mpr c4
   have c4b1 : (a0_1 != a1_1) = true := bne_iff_ne.mpr c4
   obtain rfl := Option.some.inj H
   go_enter Try.func137, Try.ntmps137
   go_wp2_with (first | ((with_reducible refine gate_dst (N := 2) rfl ?_); refine box_event ?hg (N := 2) ?hd (cs := #[.int .i64 a0_0, .int .u64 a0_1, .int .u64 a0_2, .int .u64 a0_3]) (t := 164) ?hr ?_; (case hd => rfl); (case hg => rfl); (case hr => first | (go_simp; done) | (go_simp; rfl)); intro gb101 hg w22 hbox hb; have n0_ := Aside0.mk (below_step (by repeat (first | (with_reducible first | exact HB.out | apply below_alloc | apply pw_below_drewN | apply below_drew1) | exact HB.out)) hb); have n1_ := Aside0.mk (hbox); have n2_ := Aside0.mk ((by rw [hg]; exact (below_size (by repeat (first | (with_reducible first | exact HB.out | apply below_alloc | apply pw_below_drewN | apply below_drew1) | exact HB.out))) : w.heap.size ≤ gb101)); have n3_ := Aside0.mk ((by rw [hg]; exact (below_size (by repeat (first | (with_reducible first | exact HB.out | apply below_alloc | apply pw_below_drewN | apply below_drew1) | exact HB.out))) : w.heap.size ≤ gb101)); clear HB; have HB := n0_; have BK101 := n1_; have GW101 := n2_; have GE101 := n3_; clear n0_ n1_ n2_ n3_; clear hb hbox hg) | ((with_reducible refine gate_dst (N := 3) rfl ?_); refine box_event ?hg (N := 3) ?hd (cs := #[.int .i64 a1_0, .int .u64 a1_1, .int .u64 a1_2, .int .u64 a1_3]) (t := 164) ?hr ?_; (case hd => rfl); (case hg => rfl); (case hr => first | (go_simp; done) | (go_simp; rfl)); intro gb102 hg w23 hbox hb; have n0_ := Aside0.mk (blk_below (g := gb101) (o := .cells #[.int .i64 a0_0, .int .u64 a0_1, .int .u64 a0_2, .int .u64 a0_3] 164 (0, 0)) (by (with_reducible repeat (first | refine blk_drewN ?_ _ | refine blk_drew ?_ | refine blk_alloc ?_ _)); exact BK101.out) hb); have n1_ := Aside0.mk (below_step (by repeat (first | (with_reducible first | exact HB.out | apply below_alloc | apply pw_below_drewN | apply below_drew1 | refine below_set ?_ GE101.out) | exact HB.out)) hb); have n2_ := Aside0.mk (hbox); have n3_ := Aside0.mk ((by rw [hg]; exact (below_size (by repeat (first | (with_reducible first | exact HB.out | apply below_alloc | apply pw_below_drewN | apply below_drew1 | refine below_set ?_ GE101.out) | exact HB.out))) : w.heap.size ≤ gb102)); have n4_ := Aside0.mk ((by rw [hg]; exact (below_size (by repeat (first | (with_reducible first | exact HB.out | apply below_alloc | apply pw_below_drewN | apply below_drew1 | refine below_set ?_ GE101.out) | exact HB.out))) : w.heap.size ≤ gb102)); have n5_ := Aside0.mk ((by rw [hg]; exact Nat.ne_of_lt (blk_lt (g := gb101) (o := .cells #[.int .i64 a0_0, .int .u64 a0_1, .int .u64 a0_2, .int .u64 a0_3] 164 (0, 0)) (by (with_reducible repeat (first | refine blk_drewN ?_ _ | refine blk_drew ?_ | refine blk_alloc ?_ _)); exact BK101.out)) : gb101 ≠ gb102)); have n6_ := Aside0.mk ((by rw [hg]; exact Nat.ne_of_gt (blk_lt (g := gb101) (o := .cells #[.int .i64 a0_0, .int .u64 a0_1, .int .u64 a0_2, .int .u64 a0_3] 164 (0, 0)) (by (with_reducible repeat (first | refine blk_drewN ?_ _ | refine blk_drew ?_ | refine blk_alloc ?_ _)); exact BK101.out)) : gb102 ≠ gb101)); clear BK101; clear HB; have BK101 := n0_; have HB := n1_; have BK102 := n2_; have GW102 := n3_; have GE102 := n4_; have NB101_102 := n5_; have NB102_101 := n6_; clear n0_ n1_ n2_ n3_ n4_ n5_ n6_; clear hb hbox hg; have hnb24 := NB101_102.out; have hnc24 := NB102_101.out; have hcz25_0 : w23.cell? ⟨gb101, 0, none⟩ = some (.int .i64 a0_0) := (blk_cell BK101.out 0).trans rfl; have hcz25_1 : w23.cell? ⟨gb101, 1, none⟩ = some (.int .u64 a0_1) := (blk_cell BK101.out 1).trans rfl; have hcz25_2 : w23.cell? ⟨gb101, 2, none⟩ = some (.int .u64 a0_2) := (blk_cell BK101.out 2).trans rfl; have hcz25_3 : w23.cell? ⟨gb101, 3, none⟩ = some (.int .u64 a0_3) := (blk_cell BK101.out 3).trans rfl; have hfz25_0 := blk_frozen BK101.out 0; have hfz25_1 := blk_frozen BK101.out 1; have hfz25_2 := blk_frozen BK101.out 2; have hfz25_3 := blk_frozen BK101.out 3; have hcz26_0 : w23.cell? ⟨gb102, 0, none⟩ = some (.int .i64 a1_0) := (blk_cell BK102.out 0).trans rfl; have hcz26_1 : w23.cell? ⟨gb102, 1, none⟩ = some (.int .u64 a1_1) := (blk_cell BK102.out 1).trans rfl; have hcz26_2 : w23.cell? ⟨gb102, 2, none⟩ = some (.int .u64 a1_2) := (blk_cell BK102.out 2).trans rfl; have hcz26_3 : w23.cell? ⟨gb102, 3, none⟩ = some (.int .u64 a1_3) := (blk_cell BK102.out 3).trans rfl; have hfz26_0 := blk_frozen BK102.out 0; have hfz26_1 := blk_frozen BK102.out 1; have hfz26_2 := blk_frozen BK102.out 2; have hfz26_3 := blk_frozen BK102.out 3))
   go_ret
   exact ⟨by first | rfl | (simp [errW_none, errW_some] <;> rfl) | (simp [*, errW_none, errW_some] <;> rfl), by repeat (first | (with_reducible first | exact HB.out | apply below_alloc | apply pw_below_drewN | apply below_drew1 | refine below_set ?_ GE101.out | refine below_set ?_ GE102.out) | exact HB.out)⟩
 ·rw [if_neg c3] at H
  have c3b0 : (a0_0 == a1_0) = false := beq_eq_false_iff_ne.mpr c3
  have c3b1 : (a0_0 != a1_0) = true := bne_iff_ne.mpr c3
  obtain rfl := Option.some.inj H
  go_enter Try.func137, Try.ntmps137
  go_wp2_with (first | ((with_reducible refine gate_dst (N := 2) rfl ?_); refine box_event ?hg (N := 2) ?hd (cs := #[.int .i64 a0_0, .int .u64 a0_1, .int .u64 a0_2, .int .u64 a0_3]) (t := 164) ?hr ?_; (case hd => rfl); (case hg => rfl); (case hr => first | (go_simp; done) | (go_simp; rfl)); intro gb101 hg w27 hbox hb; have n0_ := Aside0.mk (below_step (by repeat (first | (with_reducible first | exact HB.out | apply below_alloc | apply pw_below_drewN | apply below_drew1) | exact HB.out)) hb); have n1_ := Aside0.mk (hbox); have n2_ := Aside0.mk ((by rw [hg]; exact (below_size (by repeat (first | (with_reducible first | exact HB.out | apply below_alloc | apply pw_below_drewN | apply below_drew1) | exact HB.out))) : w.heap.size ≤ gb101)); have n3_ := Aside0.mk ((by rw [hg]; exact (below_size (by repeat (first | (with_reducible first | exact HB.out | apply below_alloc | apply pw_below_drewN | apply below_drew1) | exact HB.out))) : w.heap.size ≤ gb101)); clear HB; have HB := n0_; have BK101 := n1_; have GW101 := n2_; have GE101 := n3_; clear n0_ n1_ n2_ n3_; clear hb hbox hg) | ((with_reducible refine gate_dst (N := 3) rfl ?_); refine box_event ?hg (N := 3) ?hd (cs := #[.int .i64 a1_0, .int .u64 a1_1, .int .u64 a1_2, .int .u64 a1_3]) (t := 164) ?hr ?_; (case hd => rfl); (case hg => rfl); (case hr => first | (go_simp; done) | (go_simp; rfl)); intro gb102 hg w28 hbox hb; have n0_ := Aside0.mk (blk_below (g := gb101) (o := .cells #[.int .i64 a0_0, .int .u64 a0_1, .int .u64 a0_2, .int .u64 a0_3] 164 (0, 0)) (by (with_reducible repeat (first | refine blk_drewN ?_ _ | refine blk_drew ?_ | refine blk_alloc ?_ _)); exact BK101.out) hb); have n1_ := Aside0.mk (below_step (by repeat (first | (with_reducible first | exact HB.out | apply below_alloc | apply pw_below_drewN | apply below_drew1 | refine below_set ?_ GE101.out) | exact HB.out)) hb); have n2_ := Aside0.mk (hbox); have n3_ := Aside0.mk ((by rw [hg]; exact (below_size (by repeat (first | (with_reducible first | exact HB.out | apply below_alloc | apply pw_below_drewN | apply below_drew1 | refine below_set ?_ GE101.out) | exact HB.out))) : w.heap.size ≤ gb102)); have n4_ := Aside0.mk ((by rw [hg]; exact (below_size (by repeat (first | (with_reducible first | exact HB.out | apply below_alloc | apply pw_below_drewN | apply below_drew1 | refine below_set ?_ GE101.out) | exact HB.out))) : w.heap.size ≤ gb102)); have n5_ := Aside0.mk ((by rw [hg]; exact Nat.ne_of_lt (blk_lt (g := gb101) (o := .cells #[.int .i64 a0_0, .int .u64 a0_1, .int .u64 a0_2, .int .u64 a0_3] 164 (0, 0)) (by (with_reducible repeat (first | refine blk_drewN ?_ _ | refine blk_drew ?_ | refine blk_alloc ?_ _)); exact BK101.out)) : gb101 ≠ gb102)); have n6_ := Aside0.mk ((by rw [hg]; exact Nat.ne_of_gt (blk_lt (g := gb101) (o := .cells #[.int .i64 a0_0, .int .u64 a0_1, .int .u64 a0_2, .int .u64 a0_3] 164 (0, 0)) (by (with_reducible repeat (first | refine blk_drewN ?_ _ | refine blk_drew ?_ | refine blk_alloc ?_ _)); exact BK101.out)) : gb102 ≠ gb101)); clear BK101; clear HB; have BK101 := n0_; have HB := n1_; have BK102 := n2_; have GW102 := n3_; have GE102 := n4_; have NB101_102 := n5_; have NB102_101 := n6_; clear n0_ n1_ n2_ n3_ n4_ n5_ n6_; clear hb hbox hg; have hnb29 := NB101_102.out; have hnc29 := NB102_101.out; have hcz30_0 : w28.cell? ⟨gb101, 0, none⟩ = some (.int .i64 a0_0) := (blk_cell BK101.out 0).trans rfl; have hcz30_1 : w28.cell? ⟨gb101, 1, none⟩ = some (.int .u64 a0_1) := (blk_cell BK101.out 1).trans rfl; have hcz30_2 : w28.cell? ⟨gb101, 2, none⟩ = some (.int .u64 a0_2) := (blk_cell BK101.out 2).trans rfl; have hcz30_3 : w28.cell? ⟨gb101, 3, none⟩ = some (.int .u64 a0_3) := (blk_cell BK101.out 3).trans rfl; have hfz30_0 := blk_frozen BK101.out 0; have hfz30_1 := blk_frozen BK101.out 1; have hfz30_2 := blk_frozen BK101.out 2; have hfz30_3 := blk_frozen BK101.out 3; have hcz31_0 : w28.cell? ⟨gb102, 0, none⟩ = some (.int .i64 a1_0) := (blk_cell BK102.out 0).trans rfl; have hcz31_1 : w28.cell? ⟨gb102, 1, none⟩ = some (.int .u64 a1_1) := (blk_cell BK102.out 1).trans rfl; have hcz31_2 : w28.cell? ⟨gb102, 2, none⟩ = some (.int .u64 a1_2) := (blk_cell BK102.out 2).trans rfl; have hcz31_3 : w28.cell? ⟨gb102, 3, none⟩ = some (.int .u64 a1_3) := (blk_cell BK102.out 3).trans rfl; have hfz31_0 := blk_frozen BK102.out 0; have hfz31_1 := blk_frozen BK102.out 1; have hfz31_2 := blk_frozen BK102.out 2; have hfz31_3 := blk_frozen BK102.out 3))
  go_ret
  exact ⟨by first | rfl | (simp [errW_none, errW_some] <;> rfl) | (simp [*, errW_none, errW_some] <;> rfl), by repeat (first | (with_reducible first | exact HB.out | apply below_alloc | apply pw_below_drewN | apply below_drew1 | refine below_set ?_ GE101.out | refine below_set ?_ GE102.out) | exact HB.out)⟩
end Go.Proofs.Ytacgeafjilipdaa.P
namespace Go.Proofs.Ytacgeafjilipdaa.P
open Go.RowKit Go.Proofs.YtacgeafjilipdaaW.PrintWords Go.Proofs.YtacgeafjilipdaaW.PrintLast Go.Proofs.YtacgeafjilipdaaW.PrintMore
attribute [local go_sem] max2_int min2_int max_two min_two max_three min_three max_four min_four
set_option linter.unusedVariables false
set_option linter.unusedSimpArgs false
mutual
def reset_less_uint64.l0 : Nat → List (S123) → Int → List (S123) → Int → Int → Option (Int × Bool)
 | 0, _, _, _, _, _ => none
 | k + 1, x1, x6, x10, x11, x12 => if x12 < x11 then (if 0 ≤ x12 then (if x12 < (x10.length : Int) then (reset_less_uint64.l1 k x1 x6 x10 x11 x12 ((rd_T123 x10 x12).f0) ((rd_T123 x10 x12).f1)) else (none)) else (none)) else (some (0, false))
def reset_less_uint64.j2 : Nat → List (S123) → Int → List (S123) → Int → Int → Int → Int → Option (Int × Bool)
 | 0, _, _, _, _, _, _, _ => none
 | k + 1, x1, x6, x10, x11, x12, x103000, x103001 => if (x1.length : Int) > 0 then (if 0 < (x1.length : Int) then (reset_less_uint64.j3 k x1 x6 x6 x10 x11 x12 (((rd_T123 x1 0).f0) == x103000) x103000 x103001) else (none)) else (reset_less_uint64.j3 k x1 x6 x6 x10 x11 x12 false x103000 x103001)
def reset_less_uint64.j3 : Nat → List (S123) → Int → Int → List (S123) → Int → Int → Bool → Int → Int → Option (Int × Bool)
 | 0, _, _, _, _, _, _, _, _, _ => none
 | k + 1, x1, x6, x9, x10, x11, x12, x42, x103000, x103001 => if x42 = true then (if 0 < (x1.length : Int) then (if ((rd_T123 x1 0).f1) < x103001 then (some (x103000, true)) else (reset_less_uint64.l0 k x1 x6 x10 x11 (wrap64 (x12 + 1)))) else (none)) else (if x9 < x103001 then (some (x103000, true)) else (reset_less_uint64.l0 k x1 x6 x10 x11 (wrap64 (x12 + 1))))
def reset_less_uint64.l1 : Nat → List (S123) → Int → List (S123) → Int → Int → Int → Int → Option (Int × Bool)
 | 0, _, _, _, _, _, _, _ => none
 | k + 1, x1, x6, x10, x11, x12, x103000, x103001 => if (x1.length : Int) > 0 then (if 0 < (x1.length : Int) then (if ((rd_T123 x1 0).f0) < x103000 then (if 1 ≤ (x1.length : Int) then (reset_less_uint64.l1 k (x1.drop 1) x6 x10 x11 x12 x103000 x103001) else (none)) else (reset_less_uint64.j2 k x1 x6 x10 x11 x12 x103000 x103001)) else (none)) else (reset_less_uint64.j2 k x1 x6 x10 x11 x12 x103000 x103001)
end
def reset_less_uint64.f (k : Nat) (l0 : List (S123)) (l1 : List (S123)) : Option (Int × Bool) := reset_less_uint64.l0 k l1 0 l0 (l0.length : Int) 0
set_option maxHeartbeats 8000000 in
set_option maxRecDepth 100000 in
theorem reset_less_uint64.calls (k : Nat) (A0 : Option Addr) (c0 : Nat) (l0 : List (S123)) (P1_ : Nat → Prop) (A1 : Option Addr) (c1 : Nat) (l1 : List (S123)) (r1 : Int) (r2 : Bool) (w : World) (hr0 : Kd.C k123 w A0 l0.length l0) (hc0 : l0.length ≤ c0) (hs1 : Kd.V k123 123 w w.heap.size (fun k_ => P1_ k_) (.slice A1 l1.length c1) l1) (h : reset_less_uint64.f k l0 l1 = some (r1, r2)) :
  Calls Try.prog 177 #[.slice A0 l0.length c0, .slice A1 l1.length c1] w fun e w' => e = .returned (.tuple #[.int .i64 r1, .bool r2]) ∧ Below w.heap.size w w' := by
 have hu123 := Try.underlying123
 have HR0 := Aside0.mk hr0
 have HC0 := Aside0.mk hc0
 clear hr0 hc0
 have HO1 := Aside0.mk (show Kd.V k123 123 w w.heap.size (fun k_ => (P1_ k_ ∨ w.heap.size ≤ k_)) (.slice A1 l1.length c1) l1 from Kd.V_mono hs1 (fun k_ hk => .inl hk))
 have HB := Aside0.mk (Below.refl w.heap.size w)
 have H : (reset_less_uint64.l0 k l1 0 l0 (l0.length : Int) 0) = some (r1, r2) := h
 clear h
 have H' := Aside0.mk H
 clear H
 go_enter Try.func177, Try.ntmps177
 go_wp2
 repeat (go_quiet (fail); try go_wp2)
 go_loopg [1, 12] k (fun kq v1 v12 w' => ∃ (x1_1 : List (S123)) (x12_1 : Int), v12 = .int .i64 x12_1 ∧ Aside0 (reset_less_uint64.l0 kq x1_1 0 l0 (l0.length : Int) x12_1 = some (r1, r2)) ∧ Aside0 (kq ≤ k) ∧ Aside0 (Kd.V k123 123 w' w.heap.size (fun k_ => (P1_ k_ ∨ w.heap.size ≤ k_)) v1 x1_1) ∧ Aside0 (Below w.heap.size w w'))
 case atStart => exact ⟨(l1), (0), (by first | rfl | (simp; done) | (simp [*]; done)), H', ⟨Nat.le_refl _⟩, ⟨by (with_reducible repeat (first | apply Kd.V_alloc | apply Kd.V_drewN | apply Kd.V_drew)); exact HO1.out⟩, ⟨by repeat (first | (with_reducible first | exact HB.out | apply below_alloc | apply pw_below_drewN | apply below_drew1) | exact HB.out)⟩⟩
 case round =>
  clear H'
  try clear c1
  try clear p2
  obtain ⟨x1_1, x12_1, rfl, HA, HK1, HO_1, HB⟩ := hrel
  cases gk with
  | zero => exact absurd HA.out (by simp [reset_less_uint64.l0])
  | succ k1 =>
   have H := HA.out
   clear HA
   simp only [reset_less_uint64.l0] at H
   by_cases c3 : x12_1 < (l0.length : Int)
   ·rw [if_pos c3] at H
    have c3b0 : decide (x12_1 < (l0.length : Int)) = true := decide_eq_true c3
    clear c3
    by_cases c4 : 0 ≤ x12_1
    ·rw [if_pos c4] at H
     have c4b0 : decide (0 ≤ x12_1) = true := decide_eq_true c4
     clear c4
     by_cases c5 : x12_1 < (l0.length : Int)
     ·rw [if_pos c5] at H
      have c5b0 : decide (x12_1 < (l0.length : Int)) = true := decide_eq_true c5
      clear c5
      have HC6 := Aside0.mk H
      clear H
      have p101 : 0 ≤ (x12_1 : Int) := of_decide_eq_true (by first | (with_reducible assumption) | assumption)
      have q101 : x12_1 < (l0.length : Int) := of_decide_eq_true (by first | (with_reducible assumption) | assumption)
      obtain ⟨ad101, e101, hx101_0, hx101_1⟩ := at_T123 HR0.out x12_1 p101 q101
      cases e101
      replace hx101_0 := (HB.out.cell (World.block_lt_of_cell? w _ hx101_0)).trans hx101_0
      replace hx101_1 := (HB.out.cell (World.block_lt_of_cell? w _ hx101_1)).trans hx101_1
      replace p101 := eq_true p101
      replace q101 := eq_true q101
      go_upto_block 2 with (first | ((with_reducible refine gate_dst (N := 8) rfl ?_); refine box_event ?hg (N := 8) ?hd (cs := #[.int .i64 0, .int .u64 0]) (t := 123) ?hr ?_; (case hd => rfl); (case hg => rfl); (case hr => first | (go_simp; done) | (go_simp; rfl)); intro gb102 hg w7 hbox hb; have n0_ := Aside0.mk (Kd.V_below (Kd.V_elderB (by (with_reducible repeat (first | apply Kd.V_alloc | apply Kd.V_drewN | apply Kd.V_drew)); exact HO_1.out) gb102 (Nat.le_of_eq hg.symm)) hb); have n1_ := Aside0.mk (below_step (by repeat (first | (with_reducible first | exact HB.out | apply below_alloc | apply pw_below_drewN | apply below_drew1) | exact HB.out)) hb); have n2_ := Aside0.mk (hbox); have n3_ := Aside0.mk ((by rw [hg]; exact (below_size (by repeat (first | (with_reducible first | exact HB.out | apply below_alloc | apply pw_below_drewN | apply below_drew1) | exact HB.out))) : w.heap.size ≤ gb102)); have n4_ := Aside0.mk ((by rw [hg]; exact (below_size (by repeat (first | (with_reducible first | exact HB.out | apply below_alloc | apply pw_below_drewN | apply below_drew1) | exact HB.out))) : w.heap.size ≤ gb102)); clear HO_1; clear HB; have HO_1 := n0_; have HB := n1_; have BK102 := n2_; have GW102 := n3_; have GE102 := n4_; clear n0_ n1_ n2_ n3_ n4_; clear hb hbox hg; have hcz8_0 : w7.cell? ⟨gb102, 0, none⟩ = some (.int .i64 0) := (blk_cell BK102.out 0).trans rfl; have hcz8_1 : w7.cell? ⟨gb102, 1, none⟩ = some (.int .u64 0) := (blk_cell BK102.out 1).trans rfl; have hfz8_0 := blk_frozen BK102.out 0; have hfz8_1 := blk_frozen BK102.out 1))
      repeat (go_quiet (first | ((with_reducible refine gate_dst (N := 8) rfl ?_); refine box_event ?hg (N := 8) ?hd (cs := #[.int .i64 0, .int .u64 0]) (t := 123) ?hr ?_; (case hd => rfl); (case hg => rfl); (case hr => first | (go_simp; done) | (go_simp; rfl)); intro gb102 hg w7 hbox hb; have n0_ := Aside0.mk (Kd.V_below (Kd.V_elderB (by (with_reducible repeat (first | apply Kd.V_alloc | apply Kd.V_drewN | apply Kd.V_drew)); exact HO_1.out) gb102 (Nat.le_of_eq hg.symm)) hb); have n1_ := Aside0.mk (below_step (by repeat (first | (with_reducible first | exact HB.out | apply below_alloc | apply pw_below_drewN | apply below_drew1) | exact HB.out)) hb); have n2_ := Aside0.mk (hbox); have n3_ := Aside0.mk ((by rw [hg]; exact (below_size (by repeat (first | (with_reducible first | exact HB.out | apply below_alloc | apply pw_below_drewN | apply below_drew1) | exact HB.out))) : w.heap.size ≤ gb102)); have n4_ := Aside0.mk ((by rw [hg]; exact (below_size (by repeat (first | (with_reducible first | exact HB.out | apply below_alloc | apply pw_below_drewN | apply below_drew1) | exact HB.out))) : w.heap.size ≤ gb102)); clear HO_1; clear HB; have HO_1 := n0_; have HB := n1_; have BK102 := n2_; have GW102 := n3_; have GE102 := n4_; clear n0_ n1_ n2_ n3_ n4_; clear hb hbox hg; have hcz8_0 : w7.cell? ⟨gb102, 0, none⟩ = some (.int .i64 0) := (blk_cell BK102.out 0).trans rfl; have hcz8_1 : w7.cell? ⟨gb102, 1, none⟩ = some (.int .u64 0) := (blk_cell BK102.out 1).trans rfl; have hfz8_0 := blk_frozen BK102.out 0; have hfz8_1 := blk_frozen BK102.out 1)); go_upto_block 2 with (first | ((with_reducible refine gate_dst (N := 8) rfl ?_); refine box_event ?hg (N := 8) ?hd (cs := #[.int .i64 0, .int .u64 0]) (t := 123) ?hr ?_; (case hd => rfl); (case hg => rfl); (case hr => first | (go_simp; done) | (go_simp; rfl)); intro gb102 hg w7 hbox hb; have n0_ := Aside0.mk (Kd.V_below (Kd.V_elderB (by (with_reducible repeat (first | apply Kd.V_alloc | apply Kd.V_drewN | apply Kd.V_drew)); exact HO_1.out) gb102 (Nat.le_of_eq hg.symm)) hb); have n1_ := Aside0.mk (below_step (by repeat (first | (with_reducible first | exact HB.out | apply below_alloc | apply pw_below_drewN | apply below_drew1) | exact HB.out)) hb); have n2_ := Aside0.mk (hbox); have n3_ := Aside0.mk ((by rw [hg]; exact (below_size (by repeat (first | (with_reducible first | exact HB.out | apply below_alloc | apply pw_below_drewN | apply below_drew1) | exact HB.out))) : w.heap.size ≤ gb102)); have n4_ := Aside0.mk ((by rw [hg]; exact (below_size (by repeat (first | (with_reducible first | exact HB.out | apply below_alloc | apply pw_below_drewN | apply below_drew1) | exact HB.out))) : w.heap.size ≤ gb102)); clear HO_1; clear HB; have HO_1 := n0_; have HB := n1_; have BK102 := n2_; have GW102 := n3_; have GE102 := n4_; clear n0_ n1_ n2_ n3_ n4_; clear hb hbox hg; have hcz8_0 : w7.cell? ⟨gb102, 0, none⟩ = some (.int .i64 0) := (blk_cell BK102.out 0).trans rfl; have hcz8_1 : w7.cell? ⟨gb102, 1, none⟩ = some (.int .u64 0) := (blk_cell BK102.out 1).trans rfl; have hfz8_0 := blk_frozen BK102.out 0; have hfz8_1 := blk_frozen BK102.out 1)))
      (try simp only [Act.put, List.setIfInBounds_toArray, List.set_cons_zero, List.set_cons_succ])
      go_cut [1] (fun v1 wc => ∃ (kq : Nat) (x1_5 : List (S123)), Aside0 (reset_less_uint64.j2 kq x1_5 0 l0 (l0.length : Int) x12_1 ((rd_T123 l0 x12_1).f0) ((rd_T123 l0 x12_1).f1) = some (r1, r2)) ∧ Aside0 (kq ≤ k1) ∧ Aside0 (Kd.V k123 123 wc w.heap.size (fun k_ => (P1_ k_ ∨ w.heap.size ≤ k_) ∧ k_ ≠ gb102) v1 x1_5) ∧ Aside0 (wc.heap[gb102]? = some (.cells #[.int .i64 ((rd_T123 l0 x12_1).f0), .int .u64 ((rd_T123 l0 x12_1).f1)] 123 (0, 0))) ∧ Aside0 (Below w.heap.size w wc))
      case first =>
       have H := HC6.out
       clear HC6
       have H' := Aside0.mk H
       clear H
       go_wp2
       repeat (go_quiet (fail); try go_wp2)
       go_loopg [1] k1 (fun kq v1 w' => ∃ (x1_2 : List (S123)), Aside0 (reset_less_uint64.l1 kq x1_2 0 l0 (l0.length : Int) x12_1 ((rd_T123 l0 x12_1).f0) ((rd_T123 l0 x12_1).f1) = some (r1, r2)) ∧ Aside0 (kq ≤ k1) ∧ Aside0 (Kd.V k123 123 w' w.heap.size (fun k_ => (P1_ k_ ∨ w.heap.size ≤ k_) ∧ k_ ≠ gb102) v1 x1_2) ∧ Aside0 (w'.heap[gb102]? = some (.cells #[.int .i64 ((rd_T123 l0 x12_1).f0), .int .u64 ((rd_T123 l0 x12_1).f1)] 123 (0, 0))) ∧ Aside0 (Below w.heap.size w w'))
       case atStart => exact ⟨(x1_1), H', ⟨Nat.le_refl _⟩, ⟨by (with_reducible repeat (first | apply Kd.V_alloc | apply Kd.V_drewN | apply Kd.V_drew)); exact Kd.V_mono (Kd.V_far (p := ⟨gb102, 1, none⟩) (Kd.V_far (p := ⟨gb102, 0, none⟩) (Kd.V_mono HO_1.out (fun k_ hk => (⟨hk, hk.2⟩ : _ ∧ k_ ≠ gb102))) (fun _ hk => hk.2) (.int .i64 ((rd_T123 l0 x12_1).f0))) (fun _ hk => hk.2) (.int .u64 ((rd_T123 l0 x12_1).f1))) (fun _ hk => ⟨hk.1.1, hk.1.2⟩)⟩, ⟨by (with_reducible repeat (first | refine blk_drewN ?_ _ | refine blk_drew ?_ | refine blk_alloc ?_ _)); refine blk_put (cs := #[.int .i64 ((rd_T123 l0 x12_1).f0), .int .u64 0]) ?_ 1 _ rfl; (with_reducible repeat (first | refine blk_drewN ?_ _ | refine blk_drew ?_ | refine blk_alloc ?_ _)); refine blk_put (cs := #[.int .i64 0, .int .u64 0]) ?_ 0 _ rfl; (with_reducible repeat (first | refine blk_drewN ?_ _ | refine blk_drew ?_ | refine blk_alloc ?_ _)); exact BK102.out⟩, ⟨by repeat (first | (with_reducible first | exact HB.out | apply below_alloc | apply pw_below_drewN | apply below_drew1 | refine below_set ?_ GE102.out) | exact HB.out)⟩⟩
       case round =>
        clear H'
        try clear c1
        try clear p1
        try clear q1
        try clear hx1
        try clear p2
        try clear c3
        try clear c3b0
        try clear c4
        try clear c4b0
        try clear c5
        try clear c5b0
        try clear hcz8_0
        try clear hcz8_1
        try clear hfz8_0
        try clear hfz8_1
        try clear hx101_0
        try clear hx101_1
        try clear p101
        try clear p2
        try clear q101
        obtain ⟨x1_2, HA, HK2, HO_1, BK102, HB⟩ := hrel
        cases gk with
        | zero => exact absurd HA.out (by simp [reset_less_uint64.l1])
        | succ k2 =>
         have H := HA.out
         clear HA
         simp only [reset_less_uint64.l1] at H
         by_cases c9 : (x1_2.length : Int) > 0
         ·rw [if_pos c9] at H
          have c9b0 : decide (0 < (x1_2.length : Int)) = true := decide_eq_true c9
          have c9b1 : decide (0 < x1_2.length) = true := decide_eq_true (by omega)
          clear c9
          (first | rw [c9b0] | (simp only [i64_w, i32_w]; rw [c9b0]) | skip)
          by_cases c10 : 0 < (x1_2.length : Int)
          ·rw [if_pos c10] at H
           have c10b0 : decide (0 < (x1_2.length : Int)) = true := decide_eq_true c10
           have c10b1 : decide (0 < x1_2.length) = true := decide_eq_true (by omega)
           clear c10
           by_cases c11 : ((rd_T123 x1_2 0).f0) < ((rd_T123 l0 x12_1).f0)
           ·rw [if_pos c11] at H
            have c11b0 : decide (((rd_T123 x1_2 0).f0) < ((rd_T123 l0 x12_1).f0)) = true := decide_eq_true c11
            clear c11
            by_cases c12 : 1 ≤ (x1_2.length : Int)
            ·rw [if_pos c12] at H
             have c12b0 := eq_true c12
             have c12b1 : decide (1 ≤ (x1_2.length : Int)) = true := decide_eq_true c12
             clear c12
             obtain ⟨y104, hy104⟩ : ∃ y_ : List (S123), y_ = (x1_2.drop 1) := ⟨_, rfl⟩
             replace H : (reset_less_uint64.l1 k2 y104 0 l0 (l0.length : Int) x12_1 ((rd_T123 l0 x12_1).f0) ((rd_T123 l0 x12_1).f1)) = some (r1, r2) := by first | (rw [hy104]; with_reducible exact H) | (have H2_ := (Option.bind_some _ _).symm.trans H; rw [hy104]; with_reducible exact H2_) | (have H2_ := (Option.bind_some _ _).symm.trans H; with_reducible exact H2_) | with_reducible exact H | (rw [hy104]; exact H) | exact H
             have Ny104 := Aside0.mk hy104
             clear hy104
             have H' := Aside0.mk H
             clear H
             obtain ⟨Ao13, co13, eo13⟩ := Kd.V_slice HO_1.out
             subst eo13
             have p103 : 0 ≤ (0 : Int) := (by omega)
             have q103 : 0 < (x1_2.length : Int) := of_decide_eq_true (by first | (with_reducible assumption) | assumption)
             obtain ⟨ad103, e103, hx103_0, hx103_1⟩ := at_T123 (Kd.V_reads' HO_1.out).2.2 0 p103 q103
             cases e103
             have qi103 : (0 < x1_2.length) = True := eq_true (by omega)
             (try rw [show ((0 : Int)).toNat = 0 from rfl] at hx103_0)
             (try rw [show 0 * 2 = 0 from rfl] at hx103_0)
             (try rw [Addr.add_zero'] at hx103_0)
             (try rw [show ((0 : Int)).toNat = 0 from rfl] at hx103_1)
             (try rw [show 0 * 2 = 0 from rfl] at hx103_1)
             (try rw [Addr.add_zero'] at hx103_1)
             replace p103 := eq_true p103
             replace q103 := eq_true q103
             have hcz14_0 : wr.cell? ⟨gb102, 0, none⟩ = some (.int .i64 ((rd_T123 l0 x12_1).f0)) := (blk_cell BK102.out 0).trans rfl
             have hcz14_1 : wr.cell? ⟨gb102, 1, none⟩ = some (.int .u64 ((rd_T123 l0 x12_1).f1)) := (blk_cell BK102.out 1).trans rfl
             have hfz14_0 := blk_frozen BK102.out 0
             have hfz14_1 := blk_frozen BK102.out 1
             have q15 : (1 : Int) ≤ ((x1_2.length : Int) : Int) := of_decide_eq_true (by first | (with_reducible assumption) | assumption)
             obtain ⟨i015, hi015, _, hsz15, _⟩ := info_parts info123
             have hroom15 : x1_2.length ≤ co13 := (Kd.V_reads' HO_1.out).2.1
             have hC15 : Kd.F k123 _ _ (some ad103) x1_2.length x1_2 := (Kd.V_at (base := w.heap.size) HO_1.out).2.2
             have hcut15 := cut_from (P := Try.prog) 119 123 .i64 Try.underlying119 hi015 2 hsz15 (some ad103) x1_2.length co13 1 (by omega) q15
             have hr15 := Kd.F_cut (m := (1 : Int).toNat) (c := co13) hC15 (by omega) hroom15
             obtain ⟨A15, hA15⟩ : ∃ A1, A1 = (if co13 = (1 : Int).toNat then (some ad103) else ((some ad103) : Option Addr).map (·.add ((1 : Int).toNat * 2))) := ⟨_, rfl⟩
             obtain ⟨c15, hc15⟩ : ∃ c1, c1 = co13 - (1 : Int).toNat := ⟨_, rfl⟩
             have hy15 : y104.length = x1_2.length - (1 : Int).toNat := (by rw [Ny104.out, List.length_drop] <;> omega)
             rw [show (x1_2).drop (1 : Int).toNat = y104 from Ny104.out.symm] at hr15
             replace hr15 : Kd.F k123 _ _ A15 y104.length y104 := (by rw [hA15]; exact hr15)
             rw [← hy15, ← hA15, ← hc15] at hcut15
             have HO108 := Aside0.mk (show Kd.V k123 123 _ w.heap.size _ (.slice A15 y104.length c15) y104 from Kd.V_mk (by rw [hy15, hc15]; exact Nat.sub_le_sub_right hroom15 _) hr15)
             have HC108 := Aside0.mk (show y104.length ≤ c15 from by rw [hy15, hc15]; exact Nat.sub_le_sub_right hroom15 _)
             clear hr15 hC15 hroom15 hi015 hsz15 hc15
             have KY15 := Aside0.mk hy15
             have KA15 := Aside0.mk hA15
             clear hy15 hA15
             replace q15 := eq_true q15
             go_wp2
             repeat (go_quiet (fail); try go_wp2)
             go_roundg k2
             case measure => have := HK1.out; have := HK2.out; omega
             case rel => exact ⟨(y104), H', ⟨by have := HK1.out; have := HK2.out; omega⟩, ⟨by (with_reducible repeat (first | apply Kd.V_alloc | apply Kd.V_drewN | apply Kd.V_drew)); exact HO108.out⟩, ⟨by (with_reducible repeat (first | refine blk_drewN ?_ _ | refine blk_drew ?_ | refine blk_alloc ?_ _)); exact BK102.out⟩, ⟨by repeat (first | (with_reducible first | exact HB.out | apply below_alloc | apply pw_below_drewN | apply below_drew1 | refine below_set ?_ GE102.out) | exact HB.out)⟩⟩
            ·rw [if_neg c12] at H
             exact absurd H (by simp)
           ·rw [if_neg c11] at H
            have c11b0 : decide (((rd_T123 x1_2 0).f0) < ((rd_T123 l0 x12_1).f0)) = false := decide_eq_false c11
            clear c11
            have H' := Aside0.mk H
            clear H
            obtain ⟨Ao16, co16, eo16⟩ := Kd.V_slice HO_1.out
            subst eo16
            have p103 : 0 ≤ (0 : Int) := (by omega)
            have q103 : 0 < (x1_2.length : Int) := of_decide_eq_true (by first | (with_reducible assumption) | assumption)
            obtain ⟨ad103, e103, hx103_0, hx103_1⟩ := at_T123 (Kd.V_reads' HO_1.out).2.2 0 p103 q103
            cases e103
            have qi103 : (0 < x1_2.length) = True := eq_true (by omega)
            (try rw [show ((0 : Int)).toNat = 0 from rfl] at hx103_0)
            (try rw [show 0 * 2 = 0 from rfl] at hx103_0)
            (try rw [Addr.add_zero'] at hx103_0)
            (try rw [show ((0 : Int)).toNat = 0 from rfl] at hx103_1)
            (try rw [show 0 * 2 = 0 from rfl] at hx103_1)
            (try rw [Addr.add_zero'] at hx103_1)
            replace p103 := eq_true p103
            replace q103 := eq_true q103
            have hcz17_0 : wr.cell? ⟨gb102, 0, none⟩ = some (.int .i64 ((rd_T123 l0 x12_1).f0)) := (blk_cell BK102.out 0).trans rfl
            have hcz17_1 : wr.cell? ⟨gb102, 1, none⟩ = some (.int .u64 ((rd_T123 l0 x12_1).f1)) := (blk_cell BK102.out 1).trans rfl
            have hfz17_0 := blk_frozen BK102.out 0
            have hfz17_1 := blk_frozen BK102.out 1
            go_wp2
            repeat (go_quiet (fail); try go_wp2)
            go_meet
            case rel => exact ⟨_, (x1_2), H', ⟨by have := HK1.out; have := HK2.out; first | omega | exact Nat.le_refl _⟩, ⟨by (with_reducible repeat (first | apply Kd.V_alloc | apply Kd.V_drewN | apply Kd.V_drew)); exact HO_1.out⟩, ⟨by (with_reducible repeat (first | refine blk_drewN ?_ _ | refine blk_drew ?_ | refine blk_alloc ?_ _)); exact BK102.out⟩, ⟨by repeat (first | (with_reducible first | exact HB.out | apply below_alloc | apply pw_below_drewN | apply below_drew1 | refine below_set ?_ GE102.out) | exact HB.out)⟩⟩
          ·rw [if_neg c10] at H
           exact absurd H (by simp)
         ·rw [if_neg c9] at H
          have c9b0 : decide (0 < (x1_2.length : Int)) = false := decide_eq_false c9
          have c9b1 : decide (0 < x1_2.length) = false := decide_eq_false (by omega)
          clear c9
          (first | rw [c9b0] | (simp only [i64_w, i32_w]; rw [c9b0]) | skip)
          have H' := Aside0.mk H
          clear H
          obtain ⟨Ao18, co18, eo18⟩ := Kd.V_slice HO_1.out
          subst eo18
          go_wp2
          repeat (go_quiet (fail); try go_wp2)
          go_meet
          case rel => exact ⟨_, (x1_2), H', ⟨by have := HK1.out; have := HK2.out; first | omega | exact Nat.le_refl _⟩, ⟨by (with_reducible repeat (first | apply Kd.V_alloc | apply Kd.V_drewN | apply Kd.V_drew)); exact HO_1.out⟩, ⟨by (with_reducible repeat (first | refine blk_drewN ?_ _ | refine blk_drew ?_ | refine blk_alloc ?_ _)); exact BK102.out⟩, ⟨by repeat (first | (with_reducible first | exact HB.out | apply below_alloc | apply pw_below_drewN | apply below_drew1 | refine below_set ?_ GE102.out) | exact HB.out)⟩⟩
      case rest =>
       clear HC6
       try clear c1
       try clear p1
       try clear q1
       try clear hx1
       try clear qi1
       try clear p2
       try clear c3
       try clear c3b0
       try clear c4
       try clear c4b0
       try clear c5
       try clear c5b0
       try clear c9
       try clear c9b0
       try clear c9b1
       try clear c10
       try clear c10b0
       try clear c10b1
       try clear p10
       try clear q10
       try clear hx10
       try clear qi10
       try clear c11
       try clear c11b0
       try clear c12
       try clear c12b0
       try clear c12b1
       try clear c15
       try clear q15
       try clear c17
       try clear hcz14_0
       try clear hcz14_1
       try clear hcz17_0
       try clear hcz17_1
       try clear hcz8_0
       try clear hcz8_1
       try clear hfz14_0
       try clear hfz14_1
       try clear hfz17_0
       try clear hfz17_1
       try clear hfz8_0
       try clear hfz8_1
       try clear hx101_0
       try clear hx101_1
       try clear hx103_0
       try clear hx103_1
       try clear p1
       try clear p101
       try clear p103
       try clear p2
       try clear q1
       try clear q101
       try clear q103
       try clear q15
       obtain ⟨kq, x1_5, HA, HJ5, HO_1, BK102, HB⟩ := hcut
       cases kq with
       | zero => exact absurd HA.out (by simp [reset_less_uint64.j2])
       | succ kj5 =>
        have H := HA.out
        clear HA
        simp only [reset_less_uint64.j2] at H
        have HC19 := Aside0.mk H
        clear H
        go_upto_region 8 with (fail)
        repeat (go_quiet (fail); go_upto_region 8 with (fail))
        go_cut [42] (fun v42 wc => ∃ (kq : Nat) (x42_18 : Bool), v42 = .bool x42_18 ∧ Aside0 (reset_less_uint64.j3 kq x1_5 0 0 l0 (l0.length : Int) x12_1 x42_18 ((rd_T123 l0 x12_1).f0) ((rd_T123 l0 x12_1).f1) = some (r1, r2)) ∧ Aside0 (kq ≤ kj5) ∧ Aside0 (Kd.V k123 123 wc w.heap.size (fun k_ => (P1_ k_ ∨ w.heap.size ≤ k_) ∧ k_ ≠ gb102) u1 x1_5) ∧ Aside0 (wc.heap[gb102]? = some (.cells #[.int .i64 ((rd_T123 l0 x12_1).f0), .int .u64 ((rd_T123 l0 x12_1).f1)] 123 (0, 0))) ∧ Aside0 (Below w.heap.size w wc))
        case first =>
         have H := HC19.out
         clear HC19
         by_cases c20 : (x1_5.length : Int) > 0
         ·rw [if_pos c20] at H
          have c20b0 : decide (0 < (x1_5.length : Int)) = true := decide_eq_true c20
          have c20b1 : decide (0 < x1_5.length) = true := decide_eq_true (by omega)
          clear c20
          (first | rw [c20b0] | (simp only [i64_w, i32_w]; rw [c20b0]) | skip)
          by_cases c21 : 0 < (x1_5.length : Int)
          ·rw [if_pos c21] at H
           have c21b0 : decide (0 < (x1_5.length : Int)) = true := decide_eq_true c21
           have c21b1 : decide (0 < x1_5.length) = true := decide_eq_true (by omega)
           clear c21
           have H' := Aside0.mk H
           clear H
           obtain ⟨Ao22, co22, eo22⟩ := Kd.V_slice HO_1.out
           subst eo22
           have p109 : 0 ≤ (0 : Int) := (by omega)
           have q109 : 0 < (x1_5.length : Int) := of_decide_eq_true (by first | (with_reducible assumption) | assumption)
           obtain ⟨ad109, e109, hx109_0, hx109_1⟩ := at_T123 (Kd.V_reads' HO_1.out).2.2 0 p109 q109
           cases e109
           have qi109 : (0 < x1_5.length) = True := eq_true (by omega)
           (try rw [show ((0 : Int)).toNat = 0 from rfl] at hx109_0)
           (try rw [show 0 * 2 = 0 from rfl] at hx109_0)
           (try rw [Addr.add_zero'] at hx109_0)
           (try rw [show ((0 : Int)).toNat = 0 from rfl] at hx109_1)
           (try rw [show 0 * 2 = 0 from rfl] at hx109_1)
           (try rw [Addr.add_zero'] at hx109_1)
           replace p109 := eq_true p109
           replace q109 := eq_true q109
           have hcz23_0 : wc.cell? ⟨gb102, 0, none⟩ = some (.int .i64 ((rd_T123 l0 x12_1).f0)) := (blk_cell BK102.out 0).trans rfl
           have hcz23_1 : wc.cell? ⟨gb102, 1, none⟩ = some (.int .u64 ((rd_T123 l0 x12_1).f1)) := (blk_cell BK102.out 1).trans rfl
           have hfz23_0 := blk_frozen BK102.out 0
           have hfz23_1 := blk_frozen BK102.out 1
           go_wp2
           repeat (go_quiet (fail); try go_wp2)
           go_meet
           case rel => exact ⟨_, ((((rd_T123 x1_5 0).f0) == ((rd_T123 l0 x12_1).f0))), (by first | rfl | (simp; done) | (simp [*]; done)), H', ⟨by have := HK1.out; have := HJ5.out; first | omega | exact Nat.le_refl _⟩, ⟨by (with_reducible repeat (first | apply Kd.V_alloc | apply Kd.V_drewN | apply Kd.V_drew)); exact HO_1.out⟩, ⟨by (with_reducible repeat (first | refine blk_drewN ?_ _ | refine blk_drew ?_ | refine blk_alloc ?_ _)); exact BK102.out⟩, ⟨by repeat (first | (with_reducible first | exact HB.out | apply below_alloc | apply pw_below_drewN | apply below_drew1 | refine below_set ?_ GE102.out) | exact HB.out)⟩⟩
          ·rw [if_neg c21] at H
           exact absurd H (by simp)
         ·rw [if_neg c20] at H
          have c20b0 : decide (0 < (x1_5.length : Int)) = false := decide_eq_false c20
          have c20b1 : decide (0 < x1_5.length) = false := decide_eq_false (by omega)
          clear c20
          (first | rw [c20b0] | (simp only [i64_w, i32_w]; rw [c20b0]) | skip)
          have H' := Aside0.mk H
          clear H
          obtain ⟨Ao24, co24, eo24⟩ := Kd.V_slice HO_1.out
          subst eo24
          go_wp2
          repeat (go_quiet (fail); try go_wp2)
          go_meet
          case rel => exact ⟨_, (false), (by first | rfl | (simp; done) | (simp [*]; done)), H', ⟨by have := HK1.out; have := HJ5.out; first | omega | exact Nat.le_refl _⟩, ⟨by (with_reducible repeat (first | apply Kd.V_alloc | apply Kd.V_drewN | apply Kd.V_drew)); exact HO_1.out⟩, ⟨by (with_reducible repeat (first | refine blk_drewN ?_ _ | refine blk_drew ?_ | refine blk_alloc ?_ _)); exact BK102.out⟩, ⟨by repeat (first | (with_reducible first | exact HB.out | apply below_alloc | apply pw_below_drewN | apply below_drew1 | refine below_set ?_ GE102.out) | exact HB.out)⟩⟩
        case rest =>
         clear HC19
         try clear c1
         try clear p1
         try clear q1
         try clear hx1
         try clear qi1
         try clear c2
         try clear p2
         try clear c3
         try clear c3b0
         try clear c4
         try clear c4b0
         try clear c5
         try clear c5b0
         try clear c9
         try clear c9b0
         try clear c9b1
         try clear c10
         try clear c10b0
         try clear c10b1
         try clear p10
         try clear q10
         try clear hx10
         try clear qi10
         try clear c11
         try clear c11b0
         try clear c12
         try clear c12b0
         try clear c12b1
         try clear c15
         try clear q15
         try clear c17
         try clear c20
         try clear c20b0
         try clear c20b1
         try clear c21
         try clear c21b0
         try clear c21b1
         try clear hcz14_0
         try clear hcz14_1
         try clear hcz17_0
         try clear hcz17_1
         try clear hcz23_0
         try clear hcz23_1
         try clear hcz8_0
         try clear hcz8_1
         try clear hfz14_0
         try clear hfz14_1
         try clear hfz17_0
         try clear hfz17_1
         try clear hfz23_0
         try clear hfz23_1
         try clear hfz8_0
         try clear hfz8_1
         try clear hx101_0
         try clear hx101_1
         try clear hx103_0
         try clear hx103_1
         try clear hx109_0
         try clear hx109_1
         try clear p1
         try clear p10
         try clear p101
         try clear p103
         try clear p109
         try clear p2
         try clear q1
         try clear q10
         try clear q101
         try clear q103
         try clear q109
         try clear q15
         obtain ⟨kq, x42_18, rfl, HA, HJ18, HO_1, BK102, HB⟩ := hcut
         cases kq with
         | zero => exact absurd HA.out (by simp [reset_less_uint64.j3])
         | succ kj18 =>
          have H := HA.out
          clear HA
          simp only [reset_less_uint64.j3] at H
          by_cases c25 : x42_18 = true
          ·subst c25
           have H1 : (if 0 < (x1_5.length : Int) then (if ((rd_T123 x1_5 0).f1) < ((rd_T123 l0 x12_1).f1) then (some (((rd_T123 l0 x12_1).f0), true)) else (reset_less_uint64.l0 kj18 x1_5 0 l0 (l0.length : Int) (wrap64 (x12_1 + 1)))) else (none)) = some (r1, r2) := by rw [if_pos rfl] at H; exact H
           clear H
           have H := H1
           clear H1
           by_cases c26 : 0 < (x1_5.length : Int)
           ·rw [if_pos c26] at H
            have c26b0 : decide (0 < (x1_5.length : Int)) = true := decide_eq_true c26
            have c26b1 : decide (0 < x1_5.length) = true := decide_eq_true (by omega)
            clear c26
            by_cases c27 : ((rd_T123 x1_5 0).f1) < ((rd_T123 l0 x12_1).f1)
            ·rw [if_pos c27] at H
             have c27b0 : decide (((rd_T123 x1_5 0).f1) < ((rd_T123 l0 x12_1).f1)) = true := decide_eq_true c27
             clear c27
             simp only [Option.some.injEq, Prod.mk.injEq] at H
             obtain ⟨rfl, rfl⟩ := H
             obtain ⟨Ao28, co28, eo28⟩ := Kd.V_slice HO_1.out
             subst eo28
             have p110 : 0 ≤ (0 : Int) := (by omega)
             have q110 : 0 < (x1_5.length : Int) := of_decide_eq_true (by first | (with_reducible assumption) | assumption)
             obtain ⟨ad110, e110, hx110_0, hx110_1⟩ := at_T123 (Kd.V_reads' HO_1.out).2.2 0 p110 q110
             cases e110
             have qi110 : (0 < x1_5.length) = True := eq_true (by omega)
             (try rw [show ((0 : Int)).toNat = 0 from rfl] at hx110_0)
             (try rw [show 0 * 2 = 0 from rfl] at hx110_0)
             (try rw [Addr.add_zero'] at hx110_0)
             (try rw [show ((0 : Int)).toNat = 0 from rfl] at hx110_1)
             (try rw [show 0 * 2 = 0 from rfl] at hx110_1)
             (try rw [Addr.add_zero'] at hx110_1)
             replace p110 := eq_true p110
             replace q110 := eq_true q110
             have hcz29_0 : wc.cell? ⟨gb102, 0, none⟩ = some (.int .i64 ((rd_T123 l0 x12_1).f0)) := (blk_cell BK102.out 0).trans rfl
             have hcz29_1 : wc.cell? ⟨gb102, 1, none⟩ = some (.int .u64 ((rd_T123 l0 x12_1).f1)) := (blk_cell BK102.out 1).trans rfl
             have hfz29_0 := blk_frozen BK102.out 0
             have hfz29_1 := blk_frozen BK102.out 1
             go_wp2
             repeat (go_quiet (fail); try go_wp2)
             go_ret2
             exact ⟨by first | rfl | (simp [errW_none, errW_some] <;> rfl) | (simp [*, errW_none, errW_some] <;> rfl), by repeat (first | (with_reducible first | exact HB.out | apply below_alloc | apply pw_below_drewN | apply below_drew1 | refine below_set ?_ GE102.out) | exact HB.out)⟩
            ·rw [if_neg c27] at H
             have c27b0 : decide (((rd_T123 x1_5 0).f1) < ((rd_T123 l0 x12_1).f1)) = false := decide_eq_false c27
             clear c27
             have H' := Aside0.mk H
             clear H
             obtain ⟨Ao30, co30, eo30⟩ := Kd.V_slice HO_1.out
             subst eo30
             have p110 : 0 ≤ (0 : Int) := (by omega)
             have q110 : 0 < (x1_5.length : Int) := of_decide_eq_true (by first | (with_reducible assumption) | assumption)
             obtain ⟨ad110, e110, hx110_0, hx110_1⟩ := at_T123 (Kd.V_reads' HO_1.out).2.2 0 p110 q110
             cases e110
             have qi110 : (0 < x1_5.length) = True := eq_true (by omega)
             (try rw [show ((0 : Int)).toNat = 0 from rfl] at hx110_0)
             (try rw [show 0 * 2 = 0 from rfl] at hx110_0)
             (try rw [Addr.add_zero'] at hx110_0)
             (try rw [show ((0 : Int)).toNat = 0 from rfl] at hx110_1)
             (try rw [show 0 * 2 = 0 from rfl] at hx110_1)
             (try rw [Addr.add_zero'] at hx110_1)
             replace p110 := eq_true p110
             replace q110 := eq_true q110
             have hcz31_0 : wc.cell? ⟨gb102, 0, none⟩ = some (.int .i64 ((rd_T123 l0 x12_1).f0)) := (blk_cell BK102.out 0).trans rfl
             have hcz31_1 : wc.cell? ⟨gb102, 1, none⟩ = some (.int .u64 ((rd_T123 l0 x12_1).f1)) := (blk_cell BK102.out 1).trans rfl
             have hfz31_0 := blk_frozen BK102.out 0
             have hfz31_1 := blk_frozen BK102.out 1
             go_wp2
             repeat (go_quiet (fail); try go_wp2)
             go_roundg kj18
             case measure => have := HK1.out; have := HJ5.out; have := HJ18.out; omega
             case rel => exact ⟨(x1_5), (wrap64 (x12_1 + 1)), (by first | rfl | (simp; done) | (simp [*]; done)), H', ⟨by have := HK1.out; have := HJ5.out; have := HJ18.out; omega⟩, ⟨by (with_reducible repeat (first | apply Kd.V_alloc | apply Kd.V_drewN | apply Kd.V_drew)); exact Kd.V_mono HO_1.out (fun _ hk => hk.1)⟩, ⟨by repeat (first | (with_reducible first | exact HB.out | apply below_alloc | apply pw_below_drewN | apply below_drew1 | refine below_set ?_ GE102.out) | exact HB.out)⟩⟩
           ·rw [if_neg c26] at H
            exact absurd H (by simp)
          ·replace c25 := Bool.eq_false_iff.mpr c25
           subst c25
           have H1 : (if 0 < ((rd_T123 l0 x12_1).f1) then (some (((rd_T123 l0 x12_1).f0), true)) else (reset_less_uint64.l0 kj18 x1_5 0 l0 (l0.length : Int) (wrap64 (x12_1 + 1)))) = some (r1, r2) := by rw [if_neg (show ¬ (false = true) by decide)] at H; exact H
           clear H
           have H := H1
           clear H1
           by_cases c32 : 0 < ((rd_T123 l0 x12_1).f1)
           ·rw [if_pos c32] at H
            have c32b0 : decide (0 < ((rd_T123 l0 x12_1).f1)) = true := decide_eq_true c32
            clear c32
            simp only [Option.some.injEq, Prod.mk.injEq] at H
            obtain ⟨rfl, rfl⟩ := H
            have hcz33_0 : wc.cell? ⟨gb102, 0, none⟩ = some (.int .i64 ((rd_T123 l0 x12_1).f0)) := (blk_cell BK102.out 0).trans rfl
            have hcz33_1 : wc.cell? ⟨gb102, 1, none⟩ = some (.int .u64 ((rd_T123 l0 x12_1).f1)) := (blk_cell BK102.out 1).trans rfl
            have hfz33_0 := blk_frozen BK102.out 0
            have hfz33_1 := blk_frozen BK102.out 1
            go_wp2
            repeat (go_quiet (fail); try go_wp2)
            go_ret2
            exact ⟨by first | rfl | (simp [errW_none, errW_some] <;> rfl) | (simp [*, errW_none, errW_some] <;> rfl), by repeat (first | (with_reducible first | exact HB.out | apply below_alloc | apply pw_below_drewN | apply below_drew1 | refine below_set ?_ GE102.out) | exact HB.out)⟩
           ·rw [if_neg c32] at H
            have c32b0 : decide (0 < ((rd_T123 l0 x12_1).f1)) = false := decide_eq_false c32
            clear c32
            have H' := Aside0.mk H
            clear H
            have hcz34_0 : wc.cell? ⟨gb102, 0, none⟩ = some (.int .i64 ((rd_T123 l0 x12_1).f0)) := (blk_cell BK102.out 0).trans rfl
            have hcz34_1 : wc.cell? ⟨gb102, 1, none⟩ = some (.int .u64 ((rd_T123 l0 x12_1).f1)) := (blk_cell BK102.out 1).trans rfl
            have hfz34_0 := blk_frozen BK102.out 0
            have hfz34_1 := blk_frozen BK102.out 1
            go_wp2
            repeat (go_quiet (fail); try go_wp2)
            go_roundg kj18
            case measure => have := HK1.out; have := HJ5.out; have := HJ18.out; omega
            case rel => exact ⟨(x1_5), (wrap64 (x12_1 + 1)), (by first | rfl | (simp; done) | (simp [*]; done)), H', ⟨by have := HK1.out; have := HJ5.out; have := HJ18.out; omega⟩, ⟨by (with_reducible repeat (first | apply Kd.V_alloc | apply Kd.V_drewN | apply Kd.V_drew)); exact Kd.V_mono HO_1.out (fun _ hk => hk.1)⟩, ⟨by repeat (first | (with_reducible first | exact HB.out | apply below_alloc | apply pw_below_drewN | apply below_drew1 | refine below_set ?_ GE102.out) | exact HB.out)⟩⟩
     ·rw [if_neg c5] at H
      exact absurd H (by simp)
    ·rw [if_neg c4] at H
     exact absurd H (by simp)
   ·rw [if_neg c3] at H
    have c3b0 : decide (x12_1 < (l0.length : Int)) = false := decide_eq_false c3
    clear c3
    simp only [Option.some.injEq, Prod.mk.injEq] at H
    obtain ⟨rfl, rfl⟩ := H
    go_wp2
    repeat (go_quiet (fail); try go_wp2)
    go_ret2
    exact ⟨by first | rfl | (simp [errW_none, errW_some] <;> rfl) | (simp [*, errW_none, errW_some] <;> rfl), by repeat (first | (with_reducible first | exact HB.out | apply below_alloc | apply pw_below_drewN | apply below_drew1) | exact HB.out)⟩
end Go.Proofs.Ytacgeafjilipdaa.P
namespace Go.Proofs.Ytacgeafjilipdaa.P
open Go.RowKit Go.Shelf Go.Proofs.YtacgeafjilipdaaW.PrintWords Go.Proofs.YtacgeafjilipdaaW.PrintLast Go.Proofs.YtacgeafjilipdaaW.PrintMore
set_option linter.unusedVariables false
set_option linter.unusedSimpArgs false
def lessI (a b : List Pr) : Int × Bool := match a.find? (fun p => decide (look (fun q : Pr => q.f0) (fun q : Pr => q.f1) b p.f0 < p.f1)) with | some p => (p.f0, true) | none => (0, false)
theorem lessI_in (a : List Pr) (la i P V : Int) (m : Nat) (r : Option (Int × Bool)) : ∀ (b : List Pr) (k : Nat), b.length + m + 1 < k → (∀ k', (dropTo (fun q : Pr => q.f0) P b).length + m < k' → reset_less_int64.j2 k' (dropTo (fun q : Pr => q.f0) P b) 0 a la i P V = r) → reset_less_int64.l1 k b 0 a la i P V = r
  | [], k, hk, hj => by
    simp only [List.length_nil] at hk
    obtain ⟨k, rfl⟩ : ∃ n, k = n + 1 := ⟨k - 1, by omega⟩
    rw [reset_less_int64.l1, if_neg (by simp)]
    exact hj k (by simp only [dropTo, List.length_nil]; omega)
  | x :: b, k, hk, hj => by
    simp only [List.length_cons] at hk
    obtain ⟨k, rfl⟩ : ∃ n, k = n + 1 := ⟨k - 1, by omega⟩
    have h0 : rd_T26 (x :: b) 0 = x := rdPr_at (l := x :: b) (i := 0) (by simp)
    rw [reset_less_int64.l1, if_pos (by simp <;> omega), if_pos (by simp <;> omega), h0]
    by_cases c : x.f0 < P
    · rw [if_pos c, if_pos (by simp <;> omega)]
      have hd : dropTo (fun q : Pr => q.f0) P (x :: b) = dropTo (fun q : Pr => q.f0) P b := by simp only [dropTo]; rw [if_pos c]
      rw [hd] at hj
      exact lessI_in a la i P V m r b k (by omega) hj
    · rw [if_neg c]
      have hd : dropTo (fun q : Pr => q.f0) P (x :: b) = x :: b := by simp only [dropTo]; rw [if_neg c]
      rw [hd] at hj
      exact hj k (by simp only [List.length_cons]; omega)
theorem lessI_loop (a b : List Pr) (ha : Ups (fun q : Pr => q.f0) a) (hm : a.length < 4611686018427387904) : ∀ (d k i : Nat) (b' : List Pr), a.length - i = d → b'.length + 5 * d + 1 < k → i ≤ a.length → Ups (fun q : Pr => q.f0) b' → (∀ x ∈ a.drop i, look (fun q : Pr => q.f0) (fun q : Pr => q.f1) b' x.f0 = look (fun q : Pr => q.f0) (fun q : Pr => q.f1) b x.f0) →
    reset_less_int64.l0 k b' 0 a (a.length : Int) (i : Int) = some (lessI (a.drop i) b) := by
  intro d
  induction d with
  | zero =>
    intro k i b' hd hk hi hu hl
    obtain ⟨k, rfl⟩ : ∃ n, k = n + 1 := ⟨k - 1, by omega⟩
    rw [reset_less_int64.l0, if_neg (by omega), drop_end (by omega)]; rfl
  | succ d ih =>
    intro k i b' hd hk hi hu hl
    obtain ⟨k, rfl⟩ : ∃ n, k = n + 1 := ⟨k - 1, by omega⟩
    have hlt : i < a.length := by omega
    have hau : Ups (fun q : Pr => q.f0) (a.drop i) := List.Pairwise.sublist (List.drop_sublist i a) ha
    rw [drop_at hlt] at hl hau
    rw [reset_less_int64.l0, if_pos (by omega), if_pos (by omega), if_pos (by omega), rdPr_at hlt, drop_at hlt]
    have hhd : ∀ y ∈ a.drop (i + 1), a[i].f0 < y.f0 := fun y hy => Ups.head hau y hy
    have hx := hl a[i] (List.mem_cons_self ..)
    have hh := dropTo_head (val := fun q : Pr => q.f1) (p := a[i].f0) b' hu
    have hrec : ∀ k', (dropTo (fun q : Pr => q.f0) a[i].f0 b').length + 5 * d + 1 < k' → reset_less_int64.l0 k' (dropTo (fun q : Pr => q.f0) a[i].f0 b') 0 a (a.length : Int) ((i + 1 : Nat) : Int) = some (lessI (a.drop (i + 1)) b) := fun k' hk' =>
      ih k' (i + 1) _ (by omega) (by omega) (by omega) (dropTo_ups b' hu) (fun y hy => by
        rw [dropTo_look (val := fun q : Pr => q.f1) (Int.le_of_lt (hhd y hy)) b']
        exact hl y (List.mem_cons_of_mem _ hy))
    have hres : lessI (a[i] :: a.drop (i + 1)) b = if look (fun q : Pr => q.f0) (fun q : Pr => q.f1) b a[i].f0 < a[i].f1 then (a[i].f0, true) else lessI (a.drop (i + 1)) b := by
      unfold lessI
      rw [List.find?_cons]
      by_cases c : look (fun q : Pr => q.f0) (fun q : Pr => q.f1) b a[i].f0 < a[i].f1
      · rw [decide_eq_true c, if_pos c]
      · rw [decide_eq_false c, if_neg c]
    rw [hres, ← hx]
    refine lessI_in a _ _ _ _ (5 * d + 3) _ b' k (by omega) ?_
    · intro k' hk'
      obtain ⟨k', rfl⟩ : ∃ n, k' = n + 2 := ⟨k' - 2, by omega⟩
      generalize dropTo (fun q : Pr => q.f0) a[i].f0 b' = D at *
      rw [reset_less_int64.j2]
      cases D with
      | nil =>
        rw [if_neg (by simp), reset_less_int64.j3, if_neg (by simp), hh]
        by_cases c : (0 : Int) < a[i].f1
        · rw [if_pos c]; simp only [if_pos c]
        · rw [if_neg c, wrap_succ (by omega), hrec k' (by omega)]; simp only [if_neg c]
      | cons y D =>
        have h0 : rd_T26 (y :: D) 0 = y := rdPr_at (l := y :: D) (i := 0) (by simp)
        rw [if_pos (by simp <;> omega), if_pos (by simp <;> omega), h0, reset_less_int64.j3, h0]
        simp only at hh
        by_cases c : y.f0 = a[i].f0
        · rw [if_pos c] at hh
          rw [if_pos (by simpa using c), if_pos (by simp <;> omega), hh]
          by_cases c2 : y.f1 < a[i].f1
          · rw [if_pos c2]; simp only [if_pos c2]
          · rw [if_neg c2, wrap_succ (by omega), hrec k' (by omega)]; simp only [if_neg c2]
        · rw [if_neg c] at hh
          rw [if_neg (by simpa using c), hh]
          by_cases c2 : (0 : Int) < a[i].f1
          · rw [if_pos c2]; simp only [if_pos c2]
          · rw [if_neg c2, wrap_succ (by omega), hrec k' (by omega)]; simp only [if_neg c2]
theorem lessI_eq (a b : List Pr) (ha : Ups (fun q : Pr => q.f0) a) (hb : Ups (fun q : Pr => q.f0) b) (hm : a.length < 4611686018427387904) (k : Nat) (hk : b.length + 5 * a.length + 1 < k) : reset_less_int64.f k a b = some (lessI a b) := by
  unfold reset_less_int64.f
  exact lessI_loop a b ha hm a.length k 0 b (by omega) hk (by omega) hb (fun x _ => rfl)
def lessF (a b : List Pu) : Int × Bool := match a.find? (fun p => decide (look (fun q : Pu => q.f0) (fun q : Pu => q.f1) b p.f0 < p.f1)) with | some p => (p.f0, true) | none => (0, false)
theorem lessF_in (a : List Pu) (la i P V : Int) (m : Nat) (r : Option (Int × Bool)) : ∀ (b : List Pu) (k : Nat), b.length + m + 1 < k → (∀ k', (dropTo (fun q : Pu => q.f0) P b).length + m < k' → reset_less_uint64.j2 k' (dropTo (fun q : Pu => q.f0) P b) 0 a la i P V = r) → reset_less_uint64.l1 k b 0 a la i P V = r
  | [], k, hk, hj => by
    simp only [List.length_nil] at hk
    obtain ⟨k, rfl⟩ : ∃ n, k = n + 1 := ⟨k - 1, by omega⟩
    rw [reset_less_uint64.l1, if_neg (by simp)]
    exact hj k (by simp only [dropTo, List.length_nil]; omega)
  | x :: b, k, hk, hj => by
    simp only [List.length_cons] at hk
    obtain ⟨k, rfl⟩ : ∃ n, k = n + 1 := ⟨k - 1, by omega⟩
    have h0 : rd_T123 (x :: b) 0 = x := rdPu_at (l := x :: b) (i := 0) (by simp)
    rw [reset_less_uint64.l1, if_pos (by simp <;> omega), if_pos (by simp <;> omega), h0]
    by_cases c : x.f0 < P
    · rw [if_pos c, if_pos (by simp <;> omega)]
      have hd : dropTo (fun q : Pu => q.f0) P (x :: b) = dropTo (fun q : Pu => q.f0) P b := by simp only [dropTo]; rw [if_pos c]
      rw [hd] at hj
      exact lessF_in a la i P V m r b k (by omega) hj
    · rw [if_neg c]
      have hd : dropTo (fun q : Pu => q.f0) P (x :: b) = x :: b := by simp only [dropTo]; rw [if_neg c]
      rw [hd] at hj
      exact hj k (by simp only [List.length_cons]; omega)
theorem lessF_loop (a b : List Pu) (ha : Ups (fun q : Pu => q.f0) a) (hm : a.length < 4611686018427387904) : ∀ (d k i : Nat) (b' : List Pu), a.length - i = d → b'.length + 5 * d + 1 < k → i ≤ a.length → Ups (fun q : Pu => q.f0) b' → (∀ x ∈ a.drop i, look (fun q : Pu => q.f0) (fun q : Pu => q.f1) b' x.f0 = look (fun q : Pu => q.f0) (fun q : Pu => q.f1) b x.f0) →
    reset_less_uint64.l0 k b' 0 a (a.length : Int) (i : Int) = some (lessF (a.drop i) b) := by
  intro d
  induction d with
  | zero =>
    intro k i b' hd hk hi hu hl
    obtain ⟨k, rfl⟩ : ∃ n, k = n + 1 := ⟨k - 1, by omega⟩
    rw [reset_less_uint64.l0, if_neg (by omega), drop_end (by omega)]; rfl
  | succ d ih =>
    intro k i b' hd hk hi hu hl
    obtain ⟨k, rfl⟩ : ∃ n, k = n + 1 := ⟨k - 1, by omega⟩
    have hlt : i < a.length := by omega
    have hau : Ups (fun q : Pu => q.f0) (a.drop i) := List.Pairwise.sublist (List.drop_sublist i a) ha
    rw [drop_at hlt] at hl hau
    rw [reset_less_uint64.l0, if_pos (by omega), if_pos (by omega), if_pos (by omega), rdPu_at hlt, drop_at hlt]
    have hhd : ∀ y ∈ a.drop (i + 1), a[i].f0 < y.f0 := fun y hy => Ups.head hau y hy
    have hx := hl a[i] (List.mem_cons_self ..)
    have hh := dropTo_head (val := fun q : Pu => q.f1) (p := a[i].f0) b' hu
    have hrec : ∀ k', (dropTo (fun q : Pu => q.f0) a[i].f0 b').length + 5 * d + 1 < k' → reset_less_uint64.l0 k' (dropTo (fun q : Pu => q.f0) a[i].f0 b') 0 a (a.length : Int) ((i + 1 : Nat) : Int) = some (lessF (a.drop (i + 1)) b) := fun k' hk' =>
      ih k' (i + 1) _ (by omega) (by omega) (by omega) (dropTo_ups b' hu) (fun y hy => by
        rw [dropTo_look (val := fun q : Pu => q.f1) (Int.le_of_lt (hhd y hy)) b']
        exact hl y (List.mem_cons_of_mem _ hy))
    have hres : lessF (a[i] :: a.drop (i + 1)) b = if look (fun q : Pu => q.f0) (fun q : Pu => q.f1) b a[i].f0 < a[i].f1 then (a[i].f0, true) else lessF (a.drop (i + 1)) b := by
      unfold lessF
      rw [List.find?_cons]
      by_cases c : look (fun q : Pu => q.f0) (fun q : Pu => q.f1) b a[i].f0 < a[i].f1
      · rw [decide_eq_true c, if_pos c]
      · rw [decide_eq_false c, if_neg c]
    rw [hres, ← hx]
    refine lessF_in a _ _ _ _ (5 * d + 3) _ b' k (by omega) ?_
    · intro k' hk'
      obtain ⟨k', rfl⟩ : ∃ n, k' = n + 2 := ⟨k' - 2, by omega⟩
      generalize dropTo (fun q : Pu => q.f0) a[i].f0 b' = D at *
      rw [reset_less_uint64.j2]
      cases D with
      | nil =>
        rw [if_neg (by simp), reset_less_uint64.j3, if_neg (by simp), hh]
        by_cases c : (0 : Int) < a[i].f1
        · rw [if_pos c]; simp only [if_pos c]
        · rw [if_neg c, wrap_succ (by omega), hrec k' (by omega)]; simp only [if_neg c]
      | cons y D =>
        have h0 : rd_T123 (y :: D) 0 = y := rdPu_at (l := y :: D) (i := 0) (by simp)
        rw [if_pos (by simp <;> omega), if_pos (by simp <;> omega), h0, reset_less_uint64.j3, h0]
        simp only at hh
        by_cases c : y.f0 = a[i].f0
        · rw [if_pos c] at hh
          rw [if_pos (by simpa using c), if_pos (by simp <;> omega), hh]
          by_cases c2 : y.f1 < a[i].f1
          · rw [if_pos c2]; simp only [if_pos c2]
          · rw [if_neg c2, wrap_succ (by omega), hrec k' (by omega)]; simp only [if_neg c2]
        · rw [if_neg c] at hh
          rw [if_neg (by simpa using c), hh]
          by_cases c2 : (0 : Int) < a[i].f1
          · rw [if_pos c2]; simp only [if_pos c2]
          · rw [if_neg c2, wrap_succ (by omega), hrec k' (by omega)]; simp only [if_neg c2]
theorem lessF_eq (a b : List Pu) (ha : Ups (fun q : Pu => q.f0) a) (hb : Ups (fun q : Pu => q.f0) b) (hm : a.length < 4611686018427387904) (k : Nat) (hk : b.length + 5 * a.length + 1 < k) : reset_less_uint64.f k a b = some (lessF a b) := by
  unfold reset_less_uint64.f
  exact lessF_loop a b ha hm a.length k 0 b (by omega) hk (by omega) hb (fun x _ => rfl)
end Go.Proofs.Ytacgeafjilipdaa.P
namespace Go.Proofs.Ytacgeafjilipdaa.P
open Go.RowKit Go.Shelf Go.Proofs.YtacgeafjilipdaaW.PrintWords Go.Proofs.YtacgeafjilipdaaW.PrintLast Go.Proofs.YtacgeafjilipdaaW.PrintMore
set_option linter.unusedVariables false
set_option linter.unusedSimpArgs false
attribute [local go_sem] Oper.semAt_some
def cnts (l : List Pr) : Prop := ∀ p ∈ l, i64 p.f0 ∧ 0 ≤ p.f1 ∧ p.f1 ≤ 9223372036854775807
instance (l : List Pr) : Decidable (cnts l) := by unfold cnts; exact inferInstance
end Go.Proofs.Ytacgeafjilipdaa.P
namespace Go.Proofs.Ytacgeafjilipdaa.P
open Go.RowKit Go.Shelf Go.Proofs.YtacgeafjilipdaaW.PrintWords Go.Proofs.YtacgeafjilipdaaW.PrintLast Go.Proofs.YtacgeafjilipdaaW.PrintMore
set_option linter.unusedVariables false
set_option linter.unusedSimpArgs false
structure RowOK (l : List Pr) : Prop where
  wf : wfRow l
  len : l.length ≤ 4096
  cnt : cnts l
  ups : Ups (fun p : Pr => p.f0) l
theorem rises_ups : ∀ (l : List Int) (e : Int), rises e l = true → l.Pairwise (· < ·) ∧ ∀ x ∈ l, e ≤ x
  | [], _, _ => ⟨List.Pairwise.nil, fun x hx => by simp at hx⟩
  | p :: l, e, h => by
    simp only [rises, Bool.and_eq_true, decide_eq_true_eq] at h
    obtain ⟨h1, h2⟩ := rises_ups l (p + 1) h.2
    refine ⟨List.pairwise_cons.2 ⟨fun x hx => by have := h2 x hx; omega, h1⟩, fun x hx => ?_⟩
    rcases List.mem_cons.1 hx with rfl | hx
    · exact h.1.1
    · have := h2 x hx; omega
theorem zip_ups : ∀ (ps v : List Int), ps.Pairwise (· < ·) → Ups (fun p : Pr => p.f0) (List.zipWith (fun p x => (⟨p, x⟩ : Pr)) ps v)
  | [], _, _ => by simp [Ups]
  | p :: ps, [], _ => by simp [Ups]
  | p :: ps, x :: v, h => by
    have h1 := List.pairwise_cons.1 h
    refine List.pairwise_cons.2 ⟨fun y hy => ?_, zip_ups ps v h1.2⟩
    have : y.f0 ∈ ps := by
      obtain ⟨i, hi, rfl⟩ := List.mem_iff_getElem.1 hy
      simp only [List.getElem_zipWith]; exact List.getElem_mem _
    exact h1.1 _ this
theorem RowOK.nil : RowOK [] := ⟨⟨fun s hs => by simp at hs, by simp⟩, by simp, fun s hs => by simp at hs, Ups.nil⟩
theorem sideRes_row {l : List Sp} {d : List Int} (hd : i64s d) : RowOK (sideRes l d).1 := by
  by_cases h0 : (sideRes l d).2 = 0
  · obtain ⟨hc, hl⟩ := sideRes_ok hd h0
    unfold sideRes at h0 hc hl ⊢
    by_cases c1 : spCheck l = 0
    rotate_left
    · rw [if_neg c1] at h0; exact absurd h0 c1
    rw [if_pos c1] at h0 hc hl ⊢
    by_cases c2 : cntN l = d.length
    rotate_left
    · rw [if_neg c2] at h0; cases h0
    rw [if_pos c2] at h0 hc hl ⊢
    cases hs : sumsFrom 0 d with
    | none => rw [hs] at h0; cases h0
    | some c =>
      rw [hs] at h0 hc hl
      simp only at h0 hc hl ⊢
      by_cases c3 : c.any (fun x => decide (x < 0)) = true
      · rw [if_pos c3] at h0; cases h0
      rw [if_neg c3] at hc hl ⊢
      have hr := rises_of_right c1
      have hf : ∀ p ∈ List.zipWith (fun p x => (⟨p, x⟩ : Pr)) (plN 0 l) c, -1048576 ≤ p.f0 ∧ p.f0 ≤ 1048576 := by
        intro y hy
        have : y.f0 ∈ plN 0 l := by
          obtain ⟨i, hi, rfl⟩ := List.mem_iff_getElem.1 hy
          simp only [List.getElem_zipWith]; exact List.getElem_mem _
        exact rises_i64 hr _ this
      refine ⟨⟨fun p hp => ?_, by omega⟩, hl, fun p hp => ?_, zip_ups _ _ (rises_ups _ _ hr).1⟩
      · have h1 := hf p hp; have h2 := hc p hp; exact ⟨⟨by omega, by omega⟩, ⟨by omega, by omega⟩⟩
      · have h1 := hf p hp; have h2 := hc p hp; exact ⟨⟨by omega, by omega⟩, h2⟩
  · have : (sideRes l d).1 = [] := by
      unfold sideRes at h0 ⊢
      by_cases c1 : spCheck l = 0
      · rw [if_pos c1] at h0 ⊢
        by_cases c2 : cntN l = d.length
        · rw [if_pos c2] at h0 ⊢
          cases hs : sumsFrom 0 d with
          | none => rfl
          | some c =>
            rw [hs] at h0
            simp only at h0 ⊢
            by_cases c3 : c.any (fun x => decide (x < 0)) = true
            · rw [if_pos c3]
            · rw [if_neg c3] at h0; exact absurd rfl h0
        · rw [if_neg c2]
      · rw [if_neg c1]
    rw [this]; exact RowOK.nil
theorem openR_row {h : Hi} (hw : wfH h) : RowOK (openR h).1 ∧ RowOK (openR h).2.1 := by
  obtain ⟨-, -, -, -, -, -, -, h7, h8, -⟩ := hw
  have a := sideRes_row (l := h.f5) h7
  have b := sideRes_row (l := h.f6) h8
  unfold openR openRes
  repeat' split
  all_goals first | exact ⟨a, b⟩ | exact ⟨RowOK.nil, RowOK.nil⟩
end Go.Proofs.Ytacgeafjilipdaa.P
namespace Go.Proofs.Ytacgeafjilipdaa.P
open Go.RowKit Go.Proofs.YtacgeafjilipdaaW.PrintWords Go.Proofs.YtacgeafjilipdaaW.PrintLast Go.Proofs.YtacgeafjilipdaaW.PrintMore
set_option linter.unusedVariables false
set_option linter.unusedSimpArgs false
abbrev lookPr (l : List Pr) (p : Int) : Int := look (fun x : Pr => x.f0) (fun x : Pr => x.f1) l p
end Go.Proofs.Ytacgeafjilipdaa.P
namespace Go.Proofs.Ytacgeafjilipdaa.P
open Go.RowKit Go.Shelf Go.Proofs.YtacgeafjilipdaaW.PrintWords Go.Proofs.YtacgeafjilipdaaW.PrintLast Go.Proofs.YtacgeafjilipdaaW.PrintMore
set_option linter.unusedVariables false
set_option linter.unusedSimpArgs false
def sameNums (a b : Hi) : Prop := a.f0 = b.f0 ∧ a.f1 = b.f1 ∧ a.f2 = b.f2 ∧ a.f3 = b.f3 ∧ a.f4 = b.f4
instance (a b : Hi) : Decidable (sameNums a b) := by unfold sameNums; exact inferInstance
end Go.Proofs.Ytacgeafjilipdaa.P
namespace Go.Proofs.Ytacgeafjilipdaa.P
open Go.RowKit Go.Shelf Go.Proofs.YtacgeafjilipdaaW.PrintWords Go.Proofs.YtacgeafjilipdaaW.PrintLast Go.Proofs.YtacgeafjilipdaaW.PrintMore
set_option linter.unusedVariables false
set_option linter.unusedSimpArgs false
theorem open_f (h : Hi) (hw : wfH h) (w : World) (v : Value) (hv : HI w v h) : Calls Try.prog 146 #[v] w fun e w' =>
    ∃ v0 v1 : Value, e = .returned (.tuple #[v0, v1, .int .i64 (openR h).2.2]) ∧ FI kPr w.heap.size w' v0 (openR h).1 ∧ FI kPr w.heap.size w' v1 (openR h).2.1 ∧ Below w.heap.size w w' := by
  obtain ⟨A5, c5, A6, c6, A7, c7, A8, c8, rfl, ⟨_, _, e5, h51, h52⟩, ⟨_, _, e6, h61, h62⟩, ⟨_, _, e7, h71, h72⟩, ⟨_, _, e8, h81, h82⟩⟩ := hv.open_
  cases e5; cases e6; cases e7; cases e8
  refine (hist_open.calls h.f0 h.f1 h.f2 h.f3 h.f4 A5 c5 h.f5 A6 c6 h.f6 A7 c7 h.f7 A8 c8 h.f8 (openR h).1 (openR h).2.1 (openR h).2.2 w h52 h51 h62 h61 h72 h71 h82 h81 (if_pos hw)).mono ?_
  rintro e w1 ⟨v0, v1, rfl, h0, h1, hb⟩
  exact ⟨v0, v1, rfl, .of_R h0 (Nat.le_refl _), .of_R h1 (Nat.le_refl _), hb⟩
end Go.Proofs.Ytacgeafjilipdaa.P
namespace Go.Proofs.Ytacgeafjilipdaa.P
open Go.RowKit Go.Shelf Go.Proofs.YtacgeafjilipdaaW.PrintWords Go.Proofs.YtacgeafjilipdaaW.PrintLast Go.Proofs.YtacgeafjilipdaaW.PrintMore
set_option linter.unusedVariables false
set_option linter.unusedSimpArgs false
def Blk (w : World) (g : Nat) (cs : Array Value) (t : TypeId) : Prop := w.heap[g]? = some (.cells cs t (0, 0))
theorem Blk.below {w w' : World} {g : Nat} {cs : Array Value} {t : TypeId} (h : Blk w g cs t) (hb : Below w.heap.size w w') : Blk w' g cs t := blk_below h hb
theorem Blk.cell {w : World} {g : Nat} {cs : Array Value} {t : TypeId} (h : Blk w g cs t) (i : Nat) : w.cell? ⟨g, i, none⟩ = cs[i]? := blk_cell h i
theorem Blk.new (w : World) (cs : Array Value) (t : TypeId) : Blk (w.alloc (.cells cs t)) w.heap.size cs t := blk_new w _
theorem Blk.alloc {w : World} {g : Nat} {cs : Array Value} {t : TypeId} (h : Blk w g cs t) (o : Obj) : Blk (w.alloc o) g cs t := blk_alloc h o
theorem Blk.at1 {w : World} (o : Obj) (cs : Array Value) (t : TypeId) : Blk ((w.alloc o).alloc (.cells cs t)) (w.heap.size + 1) cs t := by have := Blk.new (w.alloc o) cs t; simpa using this
abbrev kRsp := k147
def HR (w : World) (v : Value) (h : Hi) : Prop :=
  ∃ v5 v6 v7 v8, v = .agg #[.int .i64 h.f0, .int .u64 h.f1, .int .u64 h.f2, .int .u64 h.f3, .int .u64 h.f4, v5, v6, v7, v8] ∧ SI kRsp w v5 (h.f5.map toR) ∧ SI kRsp w v6 (h.f6.map toR) ∧ SI (Kd.int .i64) w v7 h.f7 ∧ SI (Kd.int .i64) w v8 h.f8
theorem HR.below {w w' : World} {v : Value} {h : Hi} (x : HR w v h) (hb : Below w.heap.size w w') : HR w' v h := by
  obtain ⟨v5, v6, v7, v8, e, h5, h6, h7, h8⟩ := x
  exact ⟨v5, v6, v7, v8, e, h5.below hb, h6.below hb, h7.below hb, h8.below hb⟩
theorem HR.open_ {w : World} {v : Value} {h : Hi} (x : HR w v h) : ∃ A5 c5 A6 c6 A7 c7 A8 c8, v = .agg #[.int .i64 h.f0, .int .u64 h.f1, .int .u64 h.f2, .int .u64 h.f3, .int .u64 h.f4, .slice A5 h.f5.length c5, .slice A6 h.f6.length c6, .slice A7 h.f7.length c7, .slice A8 h.f8.length c8] ∧
    SI kRsp w (.slice A5 h.f5.length c5) (h.f5.map toR) ∧ SI kRsp w (.slice A6 h.f6.length c6) (h.f6.map toR) ∧ SI (Kd.int .i64) w (.slice A7 h.f7.length c7) h.f7 ∧ SI (Kd.int .i64) w (.slice A8 h.f8.length c8) h.f8 := by
  obtain ⟨v5, v6, v7, v8, rfl, h5, h6, h7, h8⟩ := x
  obtain ⟨A5, c5, rfl, h51, h52⟩ := h5
  obtain ⟨A6, c6, rfl, h61, h62⟩ := h6
  obtain ⟨A7, c7, rfl, h71, h72⟩ := h7
  obtain ⟨A8, c8, rfl, h81, h82⟩ := h8
  rw [List.length_map]
  rw [List.length_map]
  refine ⟨A5, c5, A6, c6, A7, c7, A8, c8, rfl, ⟨A5, c5, by rw [List.length_map], h51, h52⟩, ⟨A6, c6, by rw [List.length_map], h61, h62⟩, .of h72 h71, .of h82 h81⟩
end Go.Proofs.Ytacgeafjilipdaa.P
namespace Go.Proofs.Ytacgeafjilipdaa.P
open Go.RowKit Go.Shelf Go.Proofs.YtacgeafjilipdaaW.PrintWords Go.Proofs.YtacgeafjilipdaaW.PrintLast Go.Proofs.YtacgeafjilipdaaW.PrintMore
set_option linter.unusedVariables false
set_option linter.unusedSimpArgs false
theorem SI.V {w : World} {e : Nat} {A : Option Addr} {c : Nat} {l : List Int} (hc : l.length ≤ c) (hr : (Kd.int .i64).C w A l.length l) : Kd.V (Kd.int .i64) e w w.heap.size (fun k_ => (fun k => k < w.heap.size) k_) (.slice A l.length c) l := ⟨_, _, rfl, hc, Kd.C_F (Kd.heap_int .i64) hr⟩
theorem openR_wrong {h : Hi} (hc : checkR h ≠ 0) : (openR h).1 = [] ∧ (openR h).2.1 = [] := by
  unfold checkR openR openRes at *
  repeat' split
  all_goals first | exact ⟨rfl, rfl⟩ | skip
  rename_i h1 h2 h3 h4 h5
  rw [if_neg h1, if_neg h2, if_neg h3, if_neg h4, if_pos h5] at hc
  exact absurd rfl hc
end Go.Proofs.Ytacgeafjilipdaa.P
namespace Go.Proofs.Ytacgeafjilipdaa.P
open Go.RowKit Go.Shelf Go.Proofs.YtacgeafjilipdaaW.PrintWords Go.Proofs.YtacgeafjilipdaaW.PrintLast Go.Proofs.YtacgeafjilipdaaW.PrintMore
set_option linter.unusedVariables false
set_option linter.unusedSimpArgs false
abbrev Fh := S79
def GI (w : World) (v : Value) (h : Fh) : Prop :=
  ∃ v5 v6 v7 v8, v = .agg #[.int .i64 h.f0, .int .u64 h.f1, .int .u64 h.f2, .int .u64 h.f3, .int .u64 h.f4, v5, v6, v7, v8] ∧ SI kSp w v5 h.f5 ∧ SI kSp w v6 h.f6 ∧ SI (Kd.int .u64) w v7 h.f7 ∧ SI (Kd.int .u64) w v8 h.f8
theorem GI.below {w w' : World} {v : Value} {h : Fh} (x : GI w v h) (hb : Below w.heap.size w w') : GI w' v h := by
  obtain ⟨v5, v6, v7, v8, e, h5, h6, h7, h8⟩ := x
  exact ⟨v5, v6, v7, v8, e, h5.below hb, h6.below hb, h7.below hb, h8.below hb⟩
theorem GI.open_ {w : World} {v : Value} {h : Fh} (x : GI w v h) : ∃ A5 c5 A6 c6 A7 c7 A8 c8, v = .agg #[.int .i64 h.f0, .int .u64 h.f1, .int .u64 h.f2, .int .u64 h.f3, .int .u64 h.f4, .slice A5 h.f5.length c5, .slice A6 h.f6.length c6, .slice A7 h.f7.length c7, .slice A8 h.f8.length c8] ∧
    SI kSp w (.slice A5 h.f5.length c5) h.f5 ∧ SI kSp w (.slice A6 h.f6.length c6) h.f6 ∧ SI (Kd.int .u64) w (.slice A7 h.f7.length c7) h.f7 ∧ SI (Kd.int .u64) w (.slice A8 h.f8.length c8) h.f8 := by
  obtain ⟨v5, v6, v7, v8, rfl, h5, h6, h7, h8⟩ := x
  obtain ⟨A5, c5, rfl, h51, h52⟩ := h5
  obtain ⟨A6, c6, rfl, h61, h62⟩ := h6
  obtain ⟨A7, c7, rfl, h71, h72⟩ := h7
  obtain ⟨A8, c8, rfl, h81, h82⟩ := h8
  exact ⟨A5, c5, A6, c6, A7, c7, A8, c8, rfl, .of h52 h51, .of h62 h61, .of h72 h71, .of h82 h81⟩
theorem GI.mk {w : World} {h : Fh} {v5 v6 v7 v8 : Value} (h5 : SI kSp w v5 h.f5) (h6 : SI kSp w v6 h.f6) (h7 : SI (Kd.int .u64) w v7 h.f7) (h8 : SI (Kd.int .u64) w v8 h.f8) :
    GI w (.agg #[.int .i64 h.f0, .int .u64 h.f1, .int .u64 h.f2, .int .u64 h.f3, .int .u64 h.f4, v5, v6, v7, v8]) h := ⟨v5, v6, v7, v8, rfl, h5, h6, h7, h8⟩
def emptyF : Fh := ⟨0, 0, 0, 0, 0, [], [], [], []⟩
def GF (base : Nat) (w : World) (v : Value) (h : Fh) : Prop :=
  ∃ v5 v6 v7 v8, v = .agg #[.int .i64 h.f0, .int .u64 h.f1, .int .u64 h.f2, .int .u64 h.f3, .int .u64 h.f4, v5, v6, v7, v8] ∧ FI kSp base w v5 h.f5 ∧ FI kSp base w v6 h.f6 ∧ FI (Kd.int .u64) base w v7 h.f7 ∧ FI (Kd.int .u64) base w v8 h.f8
theorem GF.now {base : Nat} {w : World} {v : Value} {h : Fh} (x : GF base w v h) : GI w v h := by
  obtain ⟨v5, v6, v7, v8, e, h5, h6, h7, h8⟩ := x
  exact ⟨v5, v6, v7, v8, e, h5.now, h6.now, h7.now, h8.now⟩
theorem GF.step {base : Nat} {w w' : World} {v : Value} {h : Fh} (x : GF base w v h) (k : KA base w w') : GF base w' v h := by
  obtain ⟨v5, v6, v7, v8, e, h5, h6, h7, h8⟩ := x
  exact ⟨v5, v6, v7, v8, e, h5.step k, h6.step k, h7.step k, h8.step k⟩
theorem GF.lower {base b : Nat} {w : World} {v : Value} {h : Fh} (x : GF b w v h) (hb : base ≤ b) : GF base w v h := by
  obtain ⟨v5, v6, v7, v8, e, h5, h6, h7, h8⟩ := x
  exact ⟨v5, v6, v7, v8, e, h5.lower hb, h6.lower hb, h7.lower hb, h8.lower hb⟩
theorem GF.mk {base : Nat} {w : World} {h : Fh} {v5 v6 v7 v8 : Value} (h5 : FI kSp base w v5 h.f5) (h6 : FI kSp base w v6 h.f6) (h7 : FI (Kd.int .u64) base w v7 h.f7) (h8 : FI (Kd.int .u64) base w v8 h.f8) :
    GF base w (.agg #[.int .i64 h.f0, .int .u64 h.f1, .int .u64 h.f2, .int .u64 h.f3, .int .u64 h.f4, v5, v6, v7, v8]) h := ⟨v5, v6, v7, v8, rfl, h5, h6, h7, h8⟩
theorem GF.open_ {base : Nat} {w : World} {v : Value} {h : Fh} (x : GF base w v h) : ∃ A5 c5 A6 c6 A7 c7 A8 c8, v = .agg #[.int .i64 h.f0, .int .u64 h.f1, .int .u64 h.f2, .int .u64 h.f3, .int .u64 h.f4, .slice A5 h.f5.length c5, .slice A6 h.f6.length c6, .slice A7 h.f7.length c7, .slice A8 h.f8.length c8] := by
  obtain ⟨A5, c5, A6, c6, A7, c7, A8, c8, e, -⟩ := x.now.open_
  exact ⟨A5, c5, A6, c6, A7, c7, A8, c8, e⟩
def wfF (h : Fh) : Prop := i64 h.f0 ∧ u64 h.f1 ∧ u64 h.f2 ∧ u64 h.f3 ∧ u64 h.f4 ∧ wfSps h.f5 ∧ wfSps h.f6 ∧ u64s h.f7 ∧ u64s h.f8 ∧ h.f7.length < 4398046511104 ∧ h.f8.length < 4398046511104
def openF (h : Fh) : List Pu × List Pu × Int :=
  if h.f0 < -4 ∨ h.f0 > 8 then ([], [], 21) else if rightF h.f1 = false then ([], [], 11) else if (!rightF h.f2 || !rightF h.f3) = true then ([], [], 22)
  else if (sideF h.f5 h.f7).2 ≠ 0 then ([], [], (sideF h.f5 h.f7).2) else if (sideF h.f6 h.f8).2 ≠ 0 then ([], [], (sideF h.f6 h.f8).2)
  else ((sideF h.f5 h.f7).1, (sideF h.f6 h.f8).1, 0)
def checkF (h : Fh) : Int := (openF h).2.2
set_option maxHeartbeats 16000000 in
set_option maxRecDepth 100000 in
theorem fopen_f (h : Fh) (hw : wfF h) (w : World) (v : Value) (hv : GI w v h) : Calls Try.prog 159 #[v] w fun e w' =>
    ∃ v0 v1 : Value, e = .returned (.tuple #[v0, v1, .int .i64 (openF h).2.2]) ∧ FI kPu w.heap.size w' v0 (openF h).1 ∧ FI kPu w.heap.size w' v1 (openF h).2.1 ∧ Below w.heap.size w w' := by
  have hud := Try.underlying79
  have th := thresh_c h.f1
  have wz := wrong_c h.f2
  have wc := wrong_c h.f3
  have s5 := fside_c h.f5 h.f7 hw.2.2.2.2.2.1 hw.2.2.2.2.2.2.2.2.2.1
  have s6 := fside_c h.f6 h.f8 hw.2.2.2.2.2.2.1 hw.2.2.2.2.2.2.2.2.2.2
  obtain ⟨A5, c5, A6, c6, A7, c7, A8, c8, e, h5, h6, h7, h8⟩ := hv.open_
  subst e
  have B := Aside0.mk (below_alloc (Below.refl w.heap.size w) (.cells #[.int .i64 h.f0, .int .u64 h.f1, .int .u64 h.f2, .int .u64 h.f3, .int .u64 h.f4, .slice A5 h.f5.length c5, .slice A6 h.f6.length c6, .slice A7 h.f7.length c7, .slice A8 h.f8.length c8] 79))
  have X := Aside0.mk (Blk.new w #[.int .i64 h.f0, .int .u64 h.f1, .int .u64 h.f2, .int .u64 h.f3, .int .u64 h.f4, .slice A5 h.f5.length c5, .slice A6 h.f6.length c6, .slice A7 h.f7.length c7, .slice A8 h.f8.length c8] 79)
  have hx := fun i => X.out.cell i
  have H5 := Aside0.mk (h5.below B.out)
  have H6 := Aside0.mk (h6.below B.out)
  have H7 := Aside0.mk (h7.below B.out)
  have H8 := Aside0.mk (h8.below B.out)
  clear hv h5 h6 h7 h8
  unfold openF
  generalize rightF h.f1 = r1 at *
  generalize rightF h.f2 = r2 at *
  generalize rightF h.f3 = r3 at *
  generalize sideF h.f5 h.f7 = q5 at *
  generalize sideF h.f6 h.f8 = q6 at *
  obtain ⟨p, e5⟩ := q5
  obtain ⟨n, e6⟩ := q6
  simp only at s5 s6 ⊢
  have TH := Aside0.mk th
  have WZ := Aside0.mk wz
  have WC := Aside0.mk wc
  have S5 := Aside0.mk s5
  have S6 := Aside0.mk s6
  clear th wz wc s5 s6 hw
  by_cases k1 : h.f0 < -4
  · rw [if_pos (Or.inl k1)]
    have k1b : decide (h.f0 < -4) = true := decide_eq_true k1
    clear k1
    go_enter Try.func159, Try.ntmps159
    go_wp2
    go_ret3
    exact ⟨_, _, rfl, fun w _ => SI.nil _ w, fun w _ => SI.nil _ w, B.out⟩
  by_cases k2 : h.f0 > 8
  · rw [if_pos (Or.inr k2)]
    have k1b : decide (h.f0 < -4) = false := decide_eq_false k1
    have k2b : decide (8 < h.f0) = true := decide_eq_true k2
    clear k1 k2
    go_enter Try.func159, Try.ntmps159
    go_wp2
    go_ret3
    exact ⟨_, _, rfl, fun w _ => SI.nil _ w, fun w _ => SI.nil _ w, B.out⟩
  rw [if_neg (by omega)]
  have k1b : decide (h.f0 < -4) = false := decide_eq_false k1
  have k2b : decide (8 < h.f0) = false := decide_eq_false k2
  clear k1 k2
  cases r1 with
  | false =>
    rw [if_pos rfl]
    go_enter Try.func159, Try.ntmps159
    go_wp2_with (first | (go_at_call 74; (with_reducible refine (TH.out _).mono ?_); rintro e W1 ⟨rfl, hb⟩; replace B := Aside0.mk (below_then B.out B.out.size hb); replace H5 := Aside0.mk (H5.out.below hb); replace H6 := Aside0.mk (H6.out.below hb); replace H7 := Aside0.mk (H7.out.below hb); replace H8 := Aside0.mk (H8.out.below hb); replace X := Aside0.mk (X.out.below hb); replace hx := fun i => X.out.cell i; clear  hb))
    go_ret3
    exact ⟨_, _, rfl, fun w _ => SI.nil _ w, fun w _ => SI.nil _ w, B.out⟩
  | true =>
    rw [if_neg (by simp)]
    cases r2 with
    | false =>
      rw [if_pos (by simp)]
      go_enter Try.func159, Try.ntmps159
      go_wp2_with (first | (go_at_call 74; (with_reducible refine (TH.out _).mono ?_); rintro e W1 ⟨rfl, hb⟩; replace B := Aside0.mk (below_then B.out B.out.size hb); replace H5 := Aside0.mk (H5.out.below hb); replace H6 := Aside0.mk (H6.out.below hb); replace H7 := Aside0.mk (H7.out.below hb); replace H8 := Aside0.mk (H8.out.below hb); replace X := Aside0.mk (X.out.below hb); replace hx := fun i => X.out.cell i; clear  hb) | (go_at_call 181; (with_reducible refine (WZ.out _).mono ?_); rintro e W2 ⟨rfl, hb⟩; replace B := Aside0.mk (below_then B.out B.out.size hb); replace H5 := Aside0.mk (H5.out.below hb); replace H6 := Aside0.mk (H6.out.below hb); replace H7 := Aside0.mk (H7.out.below hb); replace H8 := Aside0.mk (H8.out.below hb); replace X := Aside0.mk (X.out.below hb); replace hx := fun i => X.out.cell i; clear  hb))
      go_ret3
      exact ⟨_, _, rfl, fun w _ => SI.nil _ w, fun w _ => SI.nil _ w, B.out⟩
    | true =>
      cases r3 with
      | false =>
        rw [if_pos (by simp)]
        go_enter Try.func159, Try.ntmps159
        go_wp2_with (first | (go_at_call 74; (with_reducible refine (TH.out _).mono ?_); rintro e W1 ⟨rfl, hb⟩; replace B := Aside0.mk (below_then B.out B.out.size hb); replace H5 := Aside0.mk (H5.out.below hb); replace H6 := Aside0.mk (H6.out.below hb); replace H7 := Aside0.mk (H7.out.below hb); replace H8 := Aside0.mk (H8.out.below hb); replace X := Aside0.mk (X.out.below hb); replace hx := fun i => X.out.cell i; clear  hb) | (go_at_call 181; (with_reducible refine (WZ.out _).mono ?_); rintro e W2 ⟨rfl, hb⟩; replace B := Aside0.mk (below_then B.out B.out.size hb); replace H5 := Aside0.mk (H5.out.below hb); replace H6 := Aside0.mk (H6.out.below hb); replace H7 := Aside0.mk (H7.out.below hb); replace H8 := Aside0.mk (H8.out.below hb); replace X := Aside0.mk (X.out.below hb); replace hx := fun i => X.out.cell i; clear  hb) | (go_at_call 181; (with_reducible refine (WC.out _).mono ?_); rintro e W3 ⟨rfl, hb⟩; replace B := Aside0.mk (below_then B.out B.out.size hb); replace H5 := Aside0.mk (H5.out.below hb); replace H6 := Aside0.mk (H6.out.below hb); replace H7 := Aside0.mk (H7.out.below hb); replace H8 := Aside0.mk (H8.out.below hb); replace X := Aside0.mk (X.out.below hb); replace hx := fun i => X.out.cell i; clear  hb))
        go_ret3
        exact ⟨_, _, rfl, fun w _ => SI.nil _ w, fun w _ => SI.nil _ w, B.out⟩
      | true =>
        rw [if_neg (by simp)]
        by_cases d5 : e5 = 0
        rotate_left
        · rw [if_pos d5]
          have d5a : (e5 == 0) = false := beq_eq_false_iff_ne.2 d5
          have d5b : (e5 != 0) = true := bne_iff_ne.2 d5
          clear d5
          go_enter Try.func159, Try.ntmps159
          go_wp2_with (first | (go_at_call 74; (with_reducible refine (TH.out _).mono ?_); rintro e W1 ⟨rfl, hb⟩; replace B := Aside0.mk (below_then B.out B.out.size hb); replace H5 := Aside0.mk (H5.out.below hb); replace H6 := Aside0.mk (H6.out.below hb); replace H7 := Aside0.mk (H7.out.below hb); replace H8 := Aside0.mk (H8.out.below hb); replace X := Aside0.mk (X.out.below hb); replace hx := fun i => X.out.cell i; clear  hb) | (go_at_call 181; (with_reducible refine (WZ.out _).mono ?_); rintro e W2 ⟨rfl, hb⟩; replace B := Aside0.mk (below_then B.out B.out.size hb); replace H5 := Aside0.mk (H5.out.below hb); replace H6 := Aside0.mk (H6.out.below hb); replace H7 := Aside0.mk (H7.out.below hb); replace H8 := Aside0.mk (H8.out.below hb); replace X := Aside0.mk (X.out.below hb); replace hx := fun i => X.out.cell i; clear  hb) | (go_at_call 181; (with_reducible refine (WC.out _).mono ?_); rintro e W3 ⟨rfl, hb⟩; replace B := Aside0.mk (below_then B.out B.out.size hb); replace H5 := Aside0.mk (H5.out.below hb); replace H6 := Aside0.mk (H6.out.below hb); replace H7 := Aside0.mk (H7.out.below hb); replace H8 := Aside0.mk (H8.out.below hb); replace X := Aside0.mk (X.out.below hb); replace hx := fun i => X.out.cell i; clear  hb) | (go_at_call 182; (with_reducible refine (S5.out _ _ _ H5.out H7.out).mono ?_); rintro e W4 ⟨v5, rfl, hp, hb⟩; have hp := FI.lower hp B.out.size; replace B := Aside0.mk (below_then B.out B.out.size hb); replace H5 := Aside0.mk (H5.out.below hb); replace H6 := Aside0.mk (H6.out.below hb); replace H7 := Aside0.mk (H7.out.below hb); replace H8 := Aside0.mk (H8.out.below hb); replace X := Aside0.mk (X.out.below hb); replace hx := fun i => X.out.cell i; have P5 := Aside0.mk hp; have Q5 := Aside0.mk (show W4.heap.size = W4.heap.size from rfl); have hp' := P5.out; obtain ⟨pA, pc, ep⟩ := hp'.slice; subst ep; clear hp hb))
          go_ret3
          exact ⟨_, _, rfl, fun w _ => SI.nil _ w, fun w _ => SI.nil _ w, B.out⟩
        subst d5
        rw [if_neg (by simp)]
        by_cases d6 : e6 = 0
        rotate_left
        · rw [if_pos d6]
          have d6a : (e6 == 0) = false := beq_eq_false_iff_ne.2 d6
          have d6b : (e6 != 0) = true := bne_iff_ne.2 d6
          clear d6
          go_enter Try.func159, Try.ntmps159
          go_wp2_with (first | (go_at_call 74; (with_reducible refine (TH.out _).mono ?_); rintro e W1 ⟨rfl, hb⟩; replace B := Aside0.mk (below_then B.out B.out.size hb); replace H5 := Aside0.mk (H5.out.below hb); replace H6 := Aside0.mk (H6.out.below hb); replace H7 := Aside0.mk (H7.out.below hb); replace H8 := Aside0.mk (H8.out.below hb); replace X := Aside0.mk (X.out.below hb); replace hx := fun i => X.out.cell i; clear  hb) | (go_at_call 181; (with_reducible refine (WZ.out _).mono ?_); rintro e W2 ⟨rfl, hb⟩; replace B := Aside0.mk (below_then B.out B.out.size hb); replace H5 := Aside0.mk (H5.out.below hb); replace H6 := Aside0.mk (H6.out.below hb); replace H7 := Aside0.mk (H7.out.below hb); replace H8 := Aside0.mk (H8.out.below hb); replace X := Aside0.mk (X.out.below hb); replace hx := fun i => X.out.cell i; clear  hb) | (go_at_call 181; (with_reducible refine (WC.out _).mono ?_); rintro e W3 ⟨rfl, hb⟩; replace B := Aside0.mk (below_then B.out B.out.size hb); replace H5 := Aside0.mk (H5.out.below hb); replace H6 := Aside0.mk (H6.out.below hb); replace H7 := Aside0.mk (H7.out.below hb); replace H8 := Aside0.mk (H8.out.below hb); replace X := Aside0.mk (X.out.below hb); replace hx := fun i => X.out.cell i; clear  hb) | (go_at_call 182; (with_reducible refine (S5.out _ _ _ H5.out H7.out).mono ?_); rintro e W4 ⟨v5, rfl, hp, hb⟩; have hp := FI.lower hp B.out.size; replace B := Aside0.mk (below_then B.out B.out.size hb); replace H5 := Aside0.mk (H5.out.below hb); replace H6 := Aside0.mk (H6.out.below hb); replace H7 := Aside0.mk (H7.out.below hb); replace H8 := Aside0.mk (H8.out.below hb); replace X := Aside0.mk (X.out.below hb); replace hx := fun i => X.out.cell i; have P5 := Aside0.mk hp; have Q5 := Aside0.mk (show W4.heap.size = W4.heap.size from rfl); have hp' := P5.out; obtain ⟨pA, pc, ep⟩ := hp'.slice; subst ep; clear hp hb) | (go_at_call 182; (with_reducible refine (S6.out _ _ _ H6.out H8.out).mono ?_); rintro e W5 ⟨v6, rfl, hp, hb⟩; have hp := FI.lower hp B.out.size; replace B := Aside0.mk (below_then B.out B.out.size hb); replace H5 := Aside0.mk (H5.out.below hb); replace H6 := Aside0.mk (H6.out.below hb); replace H7 := Aside0.mk (H7.out.below hb); replace H8 := Aside0.mk (H8.out.below hb); replace P5 := Aside0.mk (P5.out.step (KA.below hb)); replace X := Aside0.mk (X.out.below hb); replace hx := fun i => X.out.cell i; have P6 := Aside0.mk hp; have hp' := P6.out; obtain ⟨nA, nc, en⟩ := hp'.slice; subst en; clear hp hb))
          go_ret3
          exact ⟨_, _, rfl, fun w _ => SI.nil _ w, fun w _ => SI.nil _ w, B.out⟩
        subst d6
        rw [if_neg (by simp)]
        go_enter Try.func159, Try.ntmps159
        go_wp2_with (first | (go_at_call 74; (with_reducible refine (TH.out _).mono ?_); rintro e W1 ⟨rfl, hb⟩; replace B := Aside0.mk (below_then B.out B.out.size hb); replace H5 := Aside0.mk (H5.out.below hb); replace H6 := Aside0.mk (H6.out.below hb); replace H7 := Aside0.mk (H7.out.below hb); replace H8 := Aside0.mk (H8.out.below hb); replace X := Aside0.mk (X.out.below hb); replace hx := fun i => X.out.cell i; clear  hb) | (go_at_call 181; (with_reducible refine (WZ.out _).mono ?_); rintro e W2 ⟨rfl, hb⟩; replace B := Aside0.mk (below_then B.out B.out.size hb); replace H5 := Aside0.mk (H5.out.below hb); replace H6 := Aside0.mk (H6.out.below hb); replace H7 := Aside0.mk (H7.out.below hb); replace H8 := Aside0.mk (H8.out.below hb); replace X := Aside0.mk (X.out.below hb); replace hx := fun i => X.out.cell i; clear  hb) | (go_at_call 181; (with_reducible refine (WC.out _).mono ?_); rintro e W3 ⟨rfl, hb⟩; replace B := Aside0.mk (below_then B.out B.out.size hb); replace H5 := Aside0.mk (H5.out.below hb); replace H6 := Aside0.mk (H6.out.below hb); replace H7 := Aside0.mk (H7.out.below hb); replace H8 := Aside0.mk (H8.out.below hb); replace X := Aside0.mk (X.out.below hb); replace hx := fun i => X.out.cell i; clear  hb) | (go_at_call 182; (with_reducible refine (S5.out _ _ _ H5.out H7.out).mono ?_); rintro e W4 ⟨v5, rfl, hp, hb⟩; have hp := FI.lower hp B.out.size; replace B := Aside0.mk (below_then B.out B.out.size hb); replace H5 := Aside0.mk (H5.out.below hb); replace H6 := Aside0.mk (H6.out.below hb); replace H7 := Aside0.mk (H7.out.below hb); replace H8 := Aside0.mk (H8.out.below hb); replace X := Aside0.mk (X.out.below hb); replace hx := fun i => X.out.cell i; have P5 := Aside0.mk hp; have Q5 := Aside0.mk (show W4.heap.size = W4.heap.size from rfl); have hp' := P5.out; obtain ⟨pA, pc, ep⟩ := hp'.slice; subst ep; clear hp hb) | (go_at_call 182; (with_reducible refine (S6.out _ _ _ H6.out H8.out).mono ?_); rintro e W5 ⟨v6, rfl, hp, hb⟩; have hp := FI.lower hp B.out.size; replace B := Aside0.mk (below_then B.out B.out.size hb); replace H5 := Aside0.mk (H5.out.below hb); replace H6 := Aside0.mk (H6.out.below hb); replace H7 := Aside0.mk (H7.out.below hb); replace H8 := Aside0.mk (H8.out.below hb); replace P5 := Aside0.mk (P5.out.step (KA.below hb)); replace X := Aside0.mk (X.out.below hb); replace hx := fun i => X.out.cell i; have P6 := Aside0.mk hp; have hp' := P6.out; obtain ⟨nA, nc, en⟩ := hp'.slice; subst en; clear hp hb))
        go_ret3
        exact ⟨_, _, rfl, P5.out, P6.out, B.out⟩
def pairsF (h : Fh) (side : Int) : List Pu × Int := if side = 0 then ((openF h).1, (openF h).2.2) else if side = 1 then ((openF h).2.1, (openF h).2.2) else ([], 11)
end Go.Proofs.Ytacgeafjilipdaa.P
namespace Go.Proofs.Ytacgeafjilipdaa.P
open Go.RowKit Go.Proofs.YtacgeafjilipdaaW.PrintWords Go.Proofs.YtacgeafjilipdaaW.PrintLast Go.Proofs.YtacgeafjilipdaaW.PrintMore
set_option linter.unusedVariables false
set_option linter.unusedSimpArgs false
def numsV (s t zero other count c zc z : Int) : Int := if s ≠ t then 1 else if zero ≠ other then 2 else if c < count then 3 else if z < zc then 4 else 0
def headsR (a b : Hi) : Int := numsV a.f0 b.f0 a.f1 b.f1 a.f3 b.f3 a.f2 b.f2
def verdR (hd : Int) (lp ln : Int × Bool) : Int × Int := if hd ≠ 0 then (hd, 0) else if lp.2 = true then (5, lp.1) else if ln.2 = true then (6, ln.1) else (0, 0)
def intsV (a b : Hi) : Int × Int := verdR (headsR a b) (lessI (openR a).1 (openR b).1) (lessI (openR a).2.1 (openR b).2.1)
def intsR (a b : Hi) : (Int × Int) × Int := if checkR a ≠ 0 then ((0, 0), checkR a) else if checkR b ≠ 0 then ((0, 0), checkR b) else (intsV a b, 0)
theorem verdR_zero {hd : Int} {lp ln : Int × Bool} : (verdR hd lp ln).1 = 0 ↔ hd = 0 ∧ lp.2 = false ∧ ln.2 = false := by
  unfold verdR
  by_cases c1 : hd = 0
  · rw [if_neg (by simp [c1])]
    cases c2 : lp.2
    · rw [if_neg (by simp)]
      cases c3 : ln.2
      · rw [if_neg (by simp)]; simp [c1]
      · rw [if_pos rfl]; simp
    · rw [if_pos rfl]; simp
  · rw [if_pos c1]; simp [c1]
theorem numsV_zero {s t zero other count c zc z : Int} : numsV s t zero other count c zc z = 0 ↔ s = t ∧ zero = other ∧ count ≤ c ∧ zc ≤ z := by
  unfold numsV
  constructor
  · intro h
    split at h
    · cases h
    split at h
    · cases h
    split at h
    · cases h
    split at h
    · cases h
    exact ⟨by omega, by omega, by omega, by omega⟩
  · rintro ⟨h1, h2, h3, h4⟩
    rw [if_neg (by omega), if_neg (by omega), if_neg (by omega), if_neg (by omega)]
theorem lessI_none {a b : List Pr} : (lessI a b).2 = false ↔ ∀ p ∈ a, p.f1 ≤ lookPr b p.f0 := by
  unfold lessI
  cases h : a.find? (fun p => decide (look (fun q : Pr => q.f0) (fun q : Pr => q.f1) b p.f0 < p.f1)) with
  | none =>
    rw [List.find?_eq_none] at h
    refine ⟨fun _ p hp => ?_, fun _ => rfl⟩
    have := h p hp
    rw [decide_eq_true_eq] at this
    exact Int.not_lt.1 this
  | some x =>
    have h1 := List.find?_some h
    have h2 := List.mem_of_find?_eq_some h
    rw [decide_eq_true_eq] at h1
    refine ⟨fun hx => by simp at hx, fun hx => absurd h1 (Int.not_lt.2 (hx x h2))⟩
theorem look_nonneg {b : List Pr} (hb : cnts b) (p : Int) : 0 ≤ lookPr b p := by
  rcases look_or (key := fun q : Pr => q.f0) (val := fun q : Pr => q.f1) b p with ⟨x, hx, -, h⟩ | ⟨-, h⟩
  · rw [lookPr, h]; exact (hb x hx).2.1
  · rw [lookPr, h]; exact Int.le_refl 0
theorem lessI_trans {a b c : List Pr} (hc : cnts c) (h1 : (lessI a b).2 = false) (h2 : (lessI b c).2 = false) : (lessI a c).2 = false := by
  rw [lessI_none] at *
  intro p hp
  have := h1 p hp
  rcases look_or (key := fun q : Pr => q.f0) (val := fun q : Pr => q.f1) b p.f0 with ⟨x, hx, he, h⟩ | ⟨-, h⟩
  · rw [lookPr, h] at this
    have h3 := h2 x hx
    rw [he] at h3
    omega
  · rw [lookPr, h] at this
    have := look_nonneg hc p.f0
    omega
theorem lessI_self {a : List Pr} (ha : Ups (fun q : Pr => q.f0) a) : (lessI a a).2 = false := by
  rw [lessI_none]
  intro p hp
  have := look_mem (val := fun q : Pr => q.f1) ha hp
  rw [lookPr, this]; exact Int.le_refl _
theorem intsV_goes {a b c : Hi} (hc : wfH c) (h1 : (intsV a b).1 = 0) (h2 : (intsV b c).1 = 0) : (intsV a c).1 = 0 := by
  have rc := openR_row hc
  unfold intsV at *
  rw [verdR_zero] at *
  obtain ⟨x1, x2, x3⟩ := h1
  obtain ⟨y1, y2, y3⟩ := h2
  unfold headsR at *
  rw [numsV_zero] at *
  exact ⟨⟨by omega, by omega, by omega, by omega⟩, lessI_trans rc.1.cnt x2 y2, lessI_trans rc.2.cnt x3 y3⟩
theorem intsV_self {a : Hi} (ha : wfH a) : (intsV a a).1 = 0 := by
  have ra := openR_row ha
  unfold intsV
  rw [verdR_zero]
  unfold headsR
  rw [numsV_zero]
  exact ⟨⟨rfl, rfl, Int.le_refl _, Int.le_refl _⟩, lessI_self ra.1.ups, lessI_self ra.2.ups⟩
theorem intsV_fst {a b : Hi} (h : (intsV a b).1 = 0) : intsV a b = (0, 0) := by
  unfold intsV at *
  rw [verdR_zero] at h
  unfold verdR
  rw [if_neg (by simp [h.1]), if_neg (by simp [h.2.1]), if_neg (by simp [h.2.2])]
def headsF (a b : Fh) : Int := numsV a.f0 b.f0 a.f1 b.f1 a.f3 b.f3 a.f2 b.f2
def floatsV (a b : Fh) : Int × Int := verdR (headsF a b) (lessF (openF a).1 (openF b).1) (lessF (openF a).2.1 (openF b).2.1)
def floatsR (a b : Fh) : (Int × Int) × Int := if checkF a ≠ 0 then ((0, 0), checkF a) else if checkF b ≠ 0 then ((0, 0), checkF b) else (floatsV a b, 0)
end Go.Proofs.Ytacgeafjilipdaa.P
namespace Go.Proofs.Ytacgeafjilipdaa.P
open Go.RowKit Go.Shelf Go.Proofs.YtacgeafjilipdaaW.PrintWords Go.Proofs.YtacgeafjilipdaaW.PrintLast Go.Proofs.YtacgeafjilipdaaW.PrintMore
set_option linter.unusedVariables false
set_option linter.unusedSimpArgs false
set_option maxHeartbeats 4000000 in
set_option maxRecDepth 100000 in
theorem pairs_f (h : Hi) (hw : wfH h) (side : Int) (w : World) (v : Value) (hv : HI w v h) : Calls Try.prog 76 #[v, .int .i64 side] w fun e w' =>
    ∃ v0, e = .returned (.tuple #[v0, .int .i64 (pairsR h side).2]) ∧ FI kPr w.heap.size w' v0 (pairsR h side).1 ∧ Below w.heap.size w w' := by
  have hu := Try.underlying64
  obtain ⟨A5, c5, A6, c6, A7, c7, A8, c8, e, -⟩ := hv.open_
  subst e
  have HV := Aside0.mk hv
  have HW := Aside0.mk hw
  clear hv hw
  unfold pairsR
  by_cases c0 : side = 0
  · subst c0
    rw [if_pos rfl]
    go_enter Try.func76, Try.ntmps76
    go_wp2_with (go_at_call 146; (with_reducible refine (open_f h HW.out _ _ (HV.out.below (below_alloc (Below.refl _ _) _))).mono ?_); rintro e w1 ⟨v0, v1, rfl, h0, h1, hb⟩; have HO := Aside0.mk h0; have HB := Aside0.mk (below_then (below_alloc (Below.refl w.heap.size w) _) (by simp) hb); clear h0 h1 hb)
    go_ret2
    exact ⟨_, rfl, HO.out.lower (by simp), HB.out⟩
  · rw [if_neg c0]
    have c0a : (side == 0) = false := beq_eq_false_iff_ne.2 c0
    have c0b : (side != 0) = true := bne_iff_ne.2 c0
    by_cases c1 : side = 1
    · subst c1
      rw [if_pos rfl]
      clear c0
      go_enter Try.func76, Try.ntmps76
      go_wp2_with (go_at_call 146; (with_reducible refine (open_f h HW.out _ _ (HV.out.below (below_alloc (Below.refl _ _) _))).mono ?_); rintro e w1 ⟨v0, v1, rfl, h0, h1, hb⟩; have HO := Aside0.mk h1; have HB := Aside0.mk (below_then (below_alloc (Below.refl w.heap.size w) _) (by simp) hb); clear h0 h1 hb)
      go_ret2
      exact ⟨_, rfl, HO.out.lower (by simp), HB.out⟩
    · rw [if_neg c1]
      have c1a : (side == 1) = false := beq_eq_false_iff_ne.2 c1
      have c1b : (side != 1) = true := bne_iff_ne.2 c1
      clear c0 c1
      go_enter Try.func76, Try.ntmps76
      go_wp2
      go_ret2
      exact ⟨_, rfl, fun w _ => SI.nil _ w, below_alloc (Below.refl _ _) _⟩
set_option maxHeartbeats 4000000 in
set_option maxRecDepth 100000 in
theorem fpairs_f (h : Fh) (hw : wfF h) (side : Int) (w : World) (v : Value) (hv : GI w v h) : Calls Try.prog 100 #[v, .int .i64 side] w fun e w' =>
    ∃ v0, e = .returned (.tuple #[v0, .int .i64 (pairsF h side).2]) ∧ FI kPu w.heap.size w' v0 (pairsF h side).1 ∧ Below w.heap.size w w' := by
  have hu := Try.underlying79
  obtain ⟨A5, c5, A6, c6, A7, c7, A8, c8, e, -⟩ := hv.open_
  subst e
  have HV := Aside0.mk hv
  have HW := Aside0.mk hw
  clear hv hw
  unfold pairsF
  by_cases c0 : side = 0
  · subst c0
    rw [if_pos rfl]
    go_enter Try.func100, Try.ntmps100
    go_wp2_with (go_at_call 159; (with_reducible refine (fopen_f h HW.out _ _ (HV.out.below (below_alloc (Below.refl _ _) _))).mono ?_); rintro e w1 ⟨v0, v1, rfl, h0, h1, hb⟩; have HO := Aside0.mk h0; have HB := Aside0.mk (below_then (below_alloc (Below.refl w.heap.size w) _) (by simp) hb); clear h0 h1 hb)
    go_ret2
    exact ⟨_, rfl, HO.out.lower (by simp), HB.out⟩
  · rw [if_neg c0]
    have c0a : (side == 0) = false := beq_eq_false_iff_ne.2 c0
    have c0b : (side != 0) = true := bne_iff_ne.2 c0
    by_cases c1 : side = 1
    · subst c1
      rw [if_pos rfl]
      clear c0
      go_enter Try.func100, Try.ntmps100
      go_wp2_with (go_at_call 159; (with_reducible refine (fopen_f h HW.out _ _ (HV.out.below (below_alloc (Below.refl _ _) _))).mono ?_); rintro e w1 ⟨v0, v1, rfl, h0, h1, hb⟩; have HO := Aside0.mk h1; have HB := Aside0.mk (below_then (below_alloc (Below.refl w.heap.size w) _) (by simp) hb); clear h0 h1 hb)
      go_ret2
      exact ⟨_, rfl, HO.out.lower (by simp), HB.out⟩
    · rw [if_neg c1]
      have c1a : (side == 1) = false := beq_eq_false_iff_ne.2 c1
      have c1b : (side != 1) = true := bne_iff_ne.2 c1
      clear c0 c1
      go_enter Try.func100, Try.ntmps100
      go_wp2_with (go_at_call 159; (with_reducible refine (fopen_f h HW.out _ _ (HV.out.below (below_alloc (Below.refl _ _) _))).mono ?_); rintro e w1 ⟨v0, v1, rfl, h0, h1, hb⟩; have HO := Aside0.mk h1; have HB := Aside0.mk (below_then (below_alloc (Below.refl w.heap.size w) _) (by simp) hb); clear h0 h1 hb)
      go_ret2
      exact ⟨_, rfl, fun w _ => SI.nil _ w, HB.out⟩
theorem openF_wrong {h : Fh} (hc : checkF h ≠ 0) : (openF h).1 = [] ∧ (openF h).2.1 = [] := by
  unfold checkF openF at *
  repeat' split
  all_goals first | exact ⟨rfl, rfl⟩ | skip
  all_goals exfalso; apply hc; simp [*]
set_option maxHeartbeats 8000000 in
set_option maxRecDepth 100000 in
theorem sidesI_c (h : Hi) (hw : wfH h) (w : World) (v : Value) (hv : HI w v h) : Calls Try.prog 135 #[v, .func (.func 76) #[] #[]] w fun e w' =>
    ∃ v0 v1, e = .returned (.tuple #[.agg #[v0, v1], .int .i64 (checkR h)]) ∧ SI kPr w' v0 (openR h).1 ∧ SI kPr w' v1 (openR h).2.1 ∧ Below w.heap.size w w' := by
  have hu := Try.underlying64
  have p0 := pairs_f h hw 0
  have p1 := pairs_f h hw 1
  rw [show pairsR h 0 = ((openR h).1, checkR h) from rfl] at p0
  rw [show pairsR h 1 = ((openR h).2.1, checkR h) from rfl] at p1
  have hwr := @openR_wrong h
  obtain ⟨A5, c5, A6, c6, A7, c7, A8, c8, e, -⟩ := hv.open_
  subst e
  generalize (openR h).1 = p at *
  generalize (openR h).2.1 = n at *
  generalize checkR h = r at *
  have HV := Aside0.mk hv
  have P0 := Aside0.mk p0
  clear hv hw p0
  by_cases c : r = 0
  rotate_left
  · obtain ⟨hp, hn⟩ := hwr c
    subst hp; subst hn
    have d : (r == 0) = false := beq_eq_false_iff_ne.2 c
    have d2 : (r != 0) = true := bne_iff_ne.2 c
    clear hwr c p1
    go_enter Try.func135, Try.ntmps135
    go_wp2_with (go_at_call 76; (with_reducible refine (P0.out _ _ (HV.out.below (below_alloc (below_alloc (below_alloc (Below.refl w.heap.size w) (.cells #[.int .i64 h.f0, .int .u64 h.f1, .int .u64 h.f2, .int .u64 h.f3, .int .u64 h.f4, .slice A5 h.f5.length c5, .slice A6 h.f6.length c6, .slice A7 h.f7.length c7, .slice A8 h.f8.length c8] 64)) (.cells #[.slice none 0 0, .slice none 0 0] 158)) (.cells #[.slice none 0 0, .slice none 0 0] 158)))).mono ?_); rintro e w1 ⟨v0, rfl, h0, hb⟩; obtain ⟨B0, d0, rfl⟩ := h0.slice; have F0 := Aside0.mk (show FI kPr (w.heap.size + 1 + 1 + 1) w1 (.slice B0 0 d0) ([] : List Pr) by simpa using h0); have HB1 := Aside0.mk (below_then (below_alloc (below_alloc (below_alloc (Below.refl w.heap.size w) (.cells #[.int .i64 h.f0, .int .u64 h.f1, .int .u64 h.f2, .int .u64 h.f3, .int .u64 h.f4, .slice A5 h.f5.length c5, .slice A6 h.f6.length c6, .slice A7 h.f7.length c7, .slice A8 h.f8.length c8] 64)) (.cells #[.slice none 0 0, .slice none 0 0] 158)) (.cells #[.slice none 0 0, .slice none 0 0] 158)) (by simp; omega) hb); have HX1 := Aside0.mk (blk_below (blk_alloc (blk_alloc (blk_new w (.cells #[.int .i64 h.f0, .int .u64 h.f1, .int .u64 h.f2, .int .u64 h.f3, .int .u64 h.f4, .slice A5 h.f5.length c5, .slice A6 h.f6.length c6, .slice A7 h.f7.length c7, .slice A8 h.f8.length c8] 64)) (.cells #[.slice none 0 0, .slice none 0 0] 158)) (.cells #[.slice none 0 0, .slice none 0 0] 158)) hb); have HY1 := Aside0.mk (show w1.heap[w.heap.size + 1]? = some (.cells #[.slice none 0 0, .slice none 0 0] 158 (0, 0)) from blk_below (blk_alloc (show ((w.alloc (.cells #[.int .i64 h.f0, .int .u64 h.f1, .int .u64 h.f2, .int .u64 h.f3, .int .u64 h.f4, .slice A5 h.f5.length c5, .slice A6 h.f6.length c6, .slice A7 h.f7.length c7, .slice A8 h.f8.length c8] 64)).alloc (.cells #[.slice none 0 0, .slice none 0 0] 158)).heap[w.heap.size + 1]? = _ by simpa using blk_new (w.alloc (.cells #[.int .i64 h.f0, .int .u64 h.f1, .int .u64 h.f2, .int .u64 h.f3, .int .u64 h.f4, .slice A5 h.f5.length c5, .slice A6 h.f6.length c6, .slice A7 h.f7.length c7, .slice A8 h.f8.length c8] 64)) (.cells #[.slice none 0 0, .slice none 0 0] 158)) (.cells #[.slice none 0 0, .slice none 0 0] 158)) hb); have HZ1 := Aside0.mk (show w1.heap[w.heap.size + 1 + 1]? = some (.cells #[.slice none 0 0, .slice none 0 0] 158 (0, 0)) from blk_below (show (((w.alloc (.cells #[.int .i64 h.f0, .int .u64 h.f1, .int .u64 h.f2, .int .u64 h.f3, .int .u64 h.f4, .slice A5 h.f5.length c5, .slice A6 h.f6.length c6, .slice A7 h.f7.length c7, .slice A8 h.f8.length c8] 64)).alloc (.cells #[.slice none 0 0, .slice none 0 0] 158)).alloc (.cells #[.slice none 0 0, .slice none 0 0] 158)).heap[w.heap.size + 1 + 1]? = _ by simpa using blk_new ((w.alloc (.cells #[.int .i64 h.f0, .int .u64 h.f1, .int .u64 h.f2, .int .u64 h.f3, .int .u64 h.f4, .slice A5 h.f5.length c5, .slice A6 h.f6.length c6, .slice A7 h.f7.length c7, .slice A8 h.f8.length c8] 64)).alloc (.cells #[.slice none 0 0, .slice none 0 0] 158)) (.cells #[.slice none 0 0, .slice none 0 0] 158)) hb); have hfx := fun i => blk_cell HX1.out i; have hfy := fun i => blk_cell HY1.out i; have hzy := fun i => blk_frozen HY1.out i; have hfz := fun i => blk_cell HZ1.out i; have hzz := fun i => blk_frozen HZ1.out i; clear h0 hb)
    refine bodyPost_ret (results_ct rfl _ _ (w.heap.size + 1) 158 #[.slice B0 0 d0, .slice none 0 0] (0, 0) _ rfl (blk_put (blk_put (blk_far HY1.out (by show w.heap.size + 1 ≠ w.heap.size + 1 + 1; omega) _) 0 _ rfl) 1 _ rfl) Try.underlying158 rfl (by kernel_rfl)) rfl ?_
    exact ⟨_, _, rfl, F0.out.at_ (((KA.set _ (by omega) _).trans (KA.set _ (by omega) _)).trans (KA.set _ (by omega) _)), SI.nil _ _, ((HB1.out.setCell (p := ⟨w.heap.size + 1 + 1, 0, none⟩) (by show w.heap.size ≤ w.heap.size + 1 + 1; omega) _).setCell (p := ⟨w.heap.size + 1, 0, none⟩) (by show w.heap.size ≤ w.heap.size + 1; omega) _).setCell (p := ⟨w.heap.size + 1, 1, none⟩) (by show w.heap.size ≤ w.heap.size + 1; omega) _⟩
  subst c
  have P1 := Aside0.mk p1
  clear hwr p1
  go_enter Try.func135, Try.ntmps135
  go_wp2_with (first | (go_at_call 76; (with_reducible refine (P0.out _ _ (HV.out.below (below_alloc (below_alloc (below_alloc (Below.refl w.heap.size w) (.cells #[.int .i64 h.f0, .int .u64 h.f1, .int .u64 h.f2, .int .u64 h.f3, .int .u64 h.f4, .slice A5 h.f5.length c5, .slice A6 h.f6.length c6, .slice A7 h.f7.length c7, .slice A8 h.f8.length c8] 64)) (.cells #[.slice none 0 0, .slice none 0 0] 158)) (.cells #[.slice none 0 0, .slice none 0 0] 158)))).mono ?_); rintro e w1 ⟨v0, rfl, h0, hb⟩; obtain ⟨B0, d0, rfl⟩ := h0.slice; have F0 := Aside0.mk (show FI kPr (w.heap.size + 1 + 1 + 1) w1 (.slice B0 p.length d0) p by simpa using h0); have HB1 := Aside0.mk (below_then (below_alloc (below_alloc (below_alloc (Below.refl w.heap.size w) (.cells #[.int .i64 h.f0, .int .u64 h.f1, .int .u64 h.f2, .int .u64 h.f3, .int .u64 h.f4, .slice A5 h.f5.length c5, .slice A6 h.f6.length c6, .slice A7 h.f7.length c7, .slice A8 h.f8.length c8] 64)) (.cells #[.slice none 0 0, .slice none 0 0] 158)) (.cells #[.slice none 0 0, .slice none 0 0] 158)) (by simp; omega) hb); have HX1 := Aside0.mk (blk_below (blk_alloc (blk_alloc (blk_new w (.cells #[.int .i64 h.f0, .int .u64 h.f1, .int .u64 h.f2, .int .u64 h.f3, .int .u64 h.f4, .slice A5 h.f5.length c5, .slice A6 h.f6.length c6, .slice A7 h.f7.length c7, .slice A8 h.f8.length c8] 64)) (.cells #[.slice none 0 0, .slice none 0 0] 158)) (.cells #[.slice none 0 0, .slice none 0 0] 158)) hb); have HY1 := Aside0.mk (show w1.heap[w.heap.size + 1]? = some (.cells #[.slice none 0 0, .slice none 0 0] 158 (0, 0)) from blk_below (blk_alloc (show ((w.alloc (.cells #[.int .i64 h.f0, .int .u64 h.f1, .int .u64 h.f2, .int .u64 h.f3, .int .u64 h.f4, .slice A5 h.f5.length c5, .slice A6 h.f6.length c6, .slice A7 h.f7.length c7, .slice A8 h.f8.length c8] 64)).alloc (.cells #[.slice none 0 0, .slice none 0 0] 158)).heap[w.heap.size + 1]? = _ by simpa using blk_new (w.alloc (.cells #[.int .i64 h.f0, .int .u64 h.f1, .int .u64 h.f2, .int .u64 h.f3, .int .u64 h.f4, .slice A5 h.f5.length c5, .slice A6 h.f6.length c6, .slice A7 h.f7.length c7, .slice A8 h.f8.length c8] 64)) (.cells #[.slice none 0 0, .slice none 0 0] 158)) (.cells #[.slice none 0 0, .slice none 0 0] 158)) hb); have HZ1 := Aside0.mk (show w1.heap[w.heap.size + 1 + 1]? = some (.cells #[.slice none 0 0, .slice none 0 0] 158 (0, 0)) from blk_below (show (((w.alloc (.cells #[.int .i64 h.f0, .int .u64 h.f1, .int .u64 h.f2, .int .u64 h.f3, .int .u64 h.f4, .slice A5 h.f5.length c5, .slice A6 h.f6.length c6, .slice A7 h.f7.length c7, .slice A8 h.f8.length c8] 64)).alloc (.cells #[.slice none 0 0, .slice none 0 0] 158)).alloc (.cells #[.slice none 0 0, .slice none 0 0] 158)).heap[w.heap.size + 1 + 1]? = _ by simpa using blk_new ((w.alloc (.cells #[.int .i64 h.f0, .int .u64 h.f1, .int .u64 h.f2, .int .u64 h.f3, .int .u64 h.f4, .slice A5 h.f5.length c5, .slice A6 h.f6.length c6, .slice A7 h.f7.length c7, .slice A8 h.f8.length c8] 64)).alloc (.cells #[.slice none 0 0, .slice none 0 0] 158)) (.cells #[.slice none 0 0, .slice none 0 0] 158)) hb); have hfx := fun i => blk_cell HX1.out i; have hfy := fun i => blk_cell HY1.out i; have hzy := fun i => blk_frozen HY1.out i; have hfz := fun i => blk_cell HZ1.out i; have hzz := fun i => blk_frozen HZ1.out i; clear h0 hb) | (go_at_call 76; ((with_reducible refine (P1.out _ _ (HV.out.below (HB1.out.setCell (p := ⟨w.heap.size + 1 + 1, 0, none⟩) (by show w.heap.size ≤ w.heap.size + 1 + 1; omega) _))).mono ?_); rintro e w2 ⟨v1, rfl, h1, hb⟩; obtain ⟨B1, d1, rfl⟩ := h1.slice; have hs3 := Nat.succ_le_of_lt (blk_lt HZ1.out); have F1 := Aside0.mk (show FI kPr (w.heap.size + 1 + 1 + 1) w2 (.slice B1 n.length d1) n from FI.lower h1 (by simpa [World.setCell] using hs3)); have K2 := Aside0.mk (show KA (w.heap.size + 1 + 1 + 1) w1 w2 from (KA.set _ (by omega) _).trans (KA.below hb)); have HB2 := Aside0.mk (below_then (HB1.out.setCell (p := ⟨w.heap.size + 1 + 1, 0, none⟩) (by show w.heap.size ≤ w.heap.size + 1 + 1; omega) _) (by have := HB1.out.size; simpa [World.setCell] using this) hb); have HY2 := Aside0.mk (blk_below (blk_far HY1.out (by show w.heap.size + 1 ≠ w.heap.size + 1 + 1; omega) _) hb); have HZ2 := Aside0.mk (blk_below (blk_put HZ1.out 0 _ rfl) hb); clear hfx hfy hzy hfz hzz; have hfy := fun i => blk_cell HY2.out i; have hzy := fun i => blk_frozen HY2.out i; have hfz := fun i => blk_cell HZ2.out i; have hzz := fun i => blk_frozen HZ2.out i; clear h1 hb hs3)))
  refine bodyPost_ret (results_ct rfl _ _ (w.heap.size + 1) 158 #[.slice B0 p.length d0, .slice B1 n.length d1] (0, 0) _ rfl (blk_put (blk_put (blk_far HY2.out (by show w.heap.size + 1 ≠ w.heap.size + 1 + 1; omega) _) 0 _ rfl) 1 _ rfl) Try.underlying158 rfl (by kernel_rfl)) rfl ?_
  exact ⟨_, _, rfl, F0.out.at_ (K2.out.trans (((KA.set _ (by omega) _).trans (KA.set _ (by omega) _)).trans (KA.set _ (by omega) _))), F1.out.at_ (((KA.set _ (by omega) _).trans (KA.set _ (by omega) _)).trans (KA.set _ (by omega) _)), ((HB2.out.setCell (p := ⟨w.heap.size + 1 + 1, 1, none⟩) (by show w.heap.size ≤ w.heap.size + 1 + 1; omega) _).setCell (p := ⟨w.heap.size + 1, 0, none⟩) (by show w.heap.size ≤ w.heap.size + 1; omega) _).setCell (p := ⟨w.heap.size + 1, 1, none⟩) (by show w.heap.size ≤ w.heap.size + 1; omega) _⟩
set_option maxHeartbeats 8000000 in
set_option maxRecDepth 100000 in
theorem sidesF_c (h : Fh) (hw : wfF h) (w : World) (v : Value) (hv : GI w v h) : Calls Try.prog 142 #[v, .func (.func 100) #[] #[]] w fun e w' =>
    ∃ v0 v1, e = .returned (.tuple #[.agg #[v0, v1], .int .i64 (checkF h)]) ∧ SI kPu w' v0 (openF h).1 ∧ SI kPu w' v1 (openF h).2.1 ∧ Below w.heap.size w w' := by
  have hu := Try.underlying79
  have p0 := fpairs_f h hw 0
  have p1 := fpairs_f h hw 1
  rw [show pairsF h 0 = ((openF h).1, checkF h) from rfl] at p0
  rw [show pairsF h 1 = ((openF h).2.1, checkF h) from rfl] at p1
  have hwr := @openF_wrong h
  obtain ⟨A5, c5, A6, c6, A7, c7, A8, c8, e, -⟩ := hv.open_
  subst e
  generalize (openF h).1 = p at *
  generalize (openF h).2.1 = n at *
  generalize checkF h = r at *
  have HV := Aside0.mk hv
  have P0 := Aside0.mk p0
  clear hv hw p0
  by_cases c : r = 0
  rotate_left
  · obtain ⟨hp, hn⟩ := hwr c
    subst hp; subst hn
    have d : (r == 0) = false := beq_eq_false_iff_ne.2 c
    have d2 : (r != 0) = true := bne_iff_ne.2 c
    clear hwr c p1
    go_enter Try.func142, Try.ntmps142
    go_wp2_with (go_at_call 100; (with_reducible refine (P0.out _ _ (HV.out.below (below_alloc (below_alloc (below_alloc (Below.refl w.heap.size w) (.cells #[.int .i64 h.f0, .int .u64 h.f1, .int .u64 h.f2, .int .u64 h.f3, .int .u64 h.f4, .slice A5 h.f5.length c5, .slice A6 h.f6.length c6, .slice A7 h.f7.length c7, .slice A8 h.f8.length c8] 79)) (.cells #[.slice none 0 0, .slice none 0 0] 168)) (.cells #[.slice none 0 0, .slice none 0 0] 168)))).mono ?_); rintro e w1 ⟨v0, rfl, h0, hb⟩; obtain ⟨B0, d0, rfl⟩ := h0.slice; have F0 := Aside0.mk (show FI kPu (w.heap.size + 1 + 1 + 1) w1 (.slice B0 0 d0) ([] : List Pu) by simpa using h0); have HB1 := Aside0.mk (below_then (below_alloc (below_alloc (below_alloc (Below.refl w.heap.size w) (.cells #[.int .i64 h.f0, .int .u64 h.f1, .int .u64 h.f2, .int .u64 h.f3, .int .u64 h.f4, .slice A5 h.f5.length c5, .slice A6 h.f6.length c6, .slice A7 h.f7.length c7, .slice A8 h.f8.length c8] 79)) (.cells #[.slice none 0 0, .slice none 0 0] 168)) (.cells #[.slice none 0 0, .slice none 0 0] 168)) (by simp; omega) hb); have HX1 := Aside0.mk (blk_below (blk_alloc (blk_alloc (blk_new w (.cells #[.int .i64 h.f0, .int .u64 h.f1, .int .u64 h.f2, .int .u64 h.f3, .int .u64 h.f4, .slice A5 h.f5.length c5, .slice A6 h.f6.length c6, .slice A7 h.f7.length c7, .slice A8 h.f8.length c8] 79)) (.cells #[.slice none 0 0, .slice none 0 0] 168)) (.cells #[.slice none 0 0, .slice none 0 0] 168)) hb); have HY1 := Aside0.mk (show w1.heap[w.heap.size + 1]? = some (.cells #[.slice none 0 0, .slice none 0 0] 168 (0, 0)) from blk_below (blk_alloc (show ((w.alloc (.cells #[.int .i64 h.f0, .int .u64 h.f1, .int .u64 h.f2, .int .u64 h.f3, .int .u64 h.f4, .slice A5 h.f5.length c5, .slice A6 h.f6.length c6, .slice A7 h.f7.length c7, .slice A8 h.f8.length c8] 79)).alloc (.cells #[.slice none 0 0, .slice none 0 0] 168)).heap[w.heap.size + 1]? = _ by simpa using blk_new (w.alloc (.cells #[.int .i64 h.f0, .int .u64 h.f1, .int .u64 h.f2, .int .u64 h.f3, .int .u64 h.f4, .slice A5 h.f5.length c5, .slice A6 h.f6.length c6, .slice A7 h.f7.length c7, .slice A8 h.f8.length c8] 79)) (.cells #[.slice none 0 0, .slice none 0 0] 168)) (.cells #[.slice none 0 0, .slice none 0 0] 168)) hb); have HZ1 := Aside0.mk (show w1.heap[w.heap.size + 1 + 1]? = some (.cells #[.slice none 0 0, .slice none 0 0] 168 (0, 0)) from blk_below (show (((w.alloc (.cells #[.int .i64 h.f0, .int .u64 h.f1, .int .u64 h.f2, .int .u64 h.f3, .int .u64 h.f4, .slice A5 h.f5.length c5, .slice A6 h.f6.length c6, .slice A7 h.f7.length c7, .slice A8 h.f8.length c8] 79)).alloc (.cells #[.slice none 0 0, .slice none 0 0] 168)).alloc (.cells #[.slice none 0 0, .slice none 0 0] 168)).heap[w.heap.size + 1 + 1]? = _ by simpa using blk_new ((w.alloc (.cells #[.int .i64 h.f0, .int .u64 h.f1, .int .u64 h.f2, .int .u64 h.f3, .int .u64 h.f4, .slice A5 h.f5.length c5, .slice A6 h.f6.length c6, .slice A7 h.f7.length c7, .slice A8 h.f8.length c8] 79)).alloc (.cells #[.slice none 0 0, .slice none 0 0] 168)) (.cells #[.slice none 0 0, .slice none 0 0] 168)) hb); have hfx := fun i => blk_cell HX1.out i; have hfy := fun i => blk_cell HY1.out i; have hzy := fun i => blk_frozen HY1.out i; have hfz := fun i => blk_cell HZ1.out i; have hzz := fun i => blk_frozen HZ1.out i; clear h0 hb)
    refine bodyPost_ret (results_ct rfl _ _ (w.heap.size + 1) 168 #[.slice B0 0 d0, .slice none 0 0] (0, 0) _ rfl (blk_put (blk_put (blk_far HY1.out (by show w.heap.size + 1 ≠ w.heap.size + 1 + 1; omega) _) 0 _ rfl) 1 _ rfl) Try.underlying168 rfl (by kernel_rfl)) rfl ?_
    exact ⟨_, _, rfl, F0.out.at_ (((KA.set _ (by omega) _).trans (KA.set _ (by omega) _)).trans (KA.set _ (by omega) _)), SI.nil _ _, ((HB1.out.setCell (p := ⟨w.heap.size + 1 + 1, 0, none⟩) (by show w.heap.size ≤ w.heap.size + 1 + 1; omega) _).setCell (p := ⟨w.heap.size + 1, 0, none⟩) (by show w.heap.size ≤ w.heap.size + 1; omega) _).setCell (p := ⟨w.heap.size + 1, 1, none⟩) (by show w.heap.size ≤ w.heap.size + 1; omega) _⟩
  subst c
  have P1 := Aside0.mk p1
  clear hwr p1
  go_enter Try.func142, Try.ntmps142
  go_wp2_with (first | (go_at_call 100; (with_reducible refine (P0.out _ _ (HV.out.below (below_alloc (below_alloc (below_alloc (Below.refl w.heap.size w) (.cells #[.int .i64 h.f0, .int .u64 h.f1, .int .u64 h.f2, .int .u64 h.f3, .int .u64 h.f4, .slice A5 h.f5.length c5, .slice A6 h.f6.length c6, .slice A7 h.f7.length c7, .slice A8 h.f8.length c8] 79)) (.cells #[.slice none 0 0, .slice none 0 0] 168)) (.cells #[.slice none 0 0, .slice none 0 0] 168)))).mono ?_); rintro e w1 ⟨v0, rfl, h0, hb⟩; obtain ⟨B0, d0, rfl⟩ := h0.slice; have F0 := Aside0.mk (show FI kPu (w.heap.size + 1 + 1 + 1) w1 (.slice B0 p.length d0) p by simpa using h0); have HB1 := Aside0.mk (below_then (below_alloc (below_alloc (below_alloc (Below.refl w.heap.size w) (.cells #[.int .i64 h.f0, .int .u64 h.f1, .int .u64 h.f2, .int .u64 h.f3, .int .u64 h.f4, .slice A5 h.f5.length c5, .slice A6 h.f6.length c6, .slice A7 h.f7.length c7, .slice A8 h.f8.length c8] 79)) (.cells #[.slice none 0 0, .slice none 0 0] 168)) (.cells #[.slice none 0 0, .slice none 0 0] 168)) (by simp; omega) hb); have HX1 := Aside0.mk (blk_below (blk_alloc (blk_alloc (blk_new w (.cells #[.int .i64 h.f0, .int .u64 h.f1, .int .u64 h.f2, .int .u64 h.f3, .int .u64 h.f4, .slice A5 h.f5.length c5, .slice A6 h.f6.length c6, .slice A7 h.f7.length c7, .slice A8 h.f8.length c8] 79)) (.cells #[.slice none 0 0, .slice none 0 0] 168)) (.cells #[.slice none 0 0, .slice none 0 0] 168)) hb); have HY1 := Aside0.mk (show w1.heap[w.heap.size + 1]? = some (.cells #[.slice none 0 0, .slice none 0 0] 168 (0, 0)) from blk_below (blk_alloc (show ((w.alloc (.cells #[.int .i64 h.f0, .int .u64 h.f1, .int .u64 h.f2, .int .u64 h.f3, .int .u64 h.f4, .slice A5 h.f5.length c5, .slice A6 h.f6.length c6, .slice A7 h.f7.length c7, .slice A8 h.f8.length c8] 79)).alloc (.cells #[.slice none 0 0, .slice none 0 0] 168)).heap[w.heap.size + 1]? = _ by simpa using blk_new (w.alloc (.cells #[.int .i64 h.f0, .int .u64 h.f1, .int .u64 h.f2, .int .u64 h.f3, .int .u64 h.f4, .slice A5 h.f5.length c5, .slice A6 h.f6.length c6, .slice A7 h.f7.length c7, .slice A8 h.f8.length c8] 79)) (.cells #[.slice none 0 0, .slice none 0 0] 168)) (.cells #[.slice none 0 0, .slice none 0 0] 168)) hb); have HZ1 := Aside0.mk (show w1.heap[w.heap.size + 1 + 1]? = some (.cells #[.slice none 0 0, .slice none 0 0] 168 (0, 0)) from blk_below (show (((w.alloc (.cells #[.int .i64 h.f0, .int .u64 h.f1, .int .u64 h.f2, .int .u64 h.f3, .int .u64 h.f4, .slice A5 h.f5.length c5, .slice A6 h.f6.length c6, .slice A7 h.f7.length c7, .slice A8 h.f8.length c8] 79)).alloc (.cells #[.slice none 0 0, .slice none 0 0] 168)).alloc (.cells #[.slice none 0 0, .slice none 0 0] 168)).heap[w.heap.size + 1 + 1]? = _ by simpa using blk_new ((w.alloc (.cells #[.int .i64 h.f0, .int .u64 h.f1, .int .u64 h.f2, .int .u64 h.f3, .int .u64 h.f4, .slice A5 h.f5.length c5, .slice A6 h.f6.length c6, .slice A7 h.f7.length c7, .slice A8 h.f8.length c8] 79)).alloc (.cells #[.slice none 0 0, .slice none 0 0] 168)) (.cells #[.slice none 0 0, .slice none 0 0] 168)) hb); have hfx := fun i => blk_cell HX1.out i; have hfy := fun i => blk_cell HY1.out i; have hzy := fun i => blk_frozen HY1.out i; have hfz := fun i => blk_cell HZ1.out i; have hzz := fun i => blk_frozen HZ1.out i; clear h0 hb) | (go_at_call 100; ((with_reducible refine (P1.out _ _ (HV.out.below (HB1.out.setCell (p := ⟨w.heap.size + 1 + 1, 0, none⟩) (by show w.heap.size ≤ w.heap.size + 1 + 1; omega) _))).mono ?_); rintro e w2 ⟨v1, rfl, h1, hb⟩; obtain ⟨B1, d1, rfl⟩ := h1.slice; have hs3 := Nat.succ_le_of_lt (blk_lt HZ1.out); have F1 := Aside0.mk (show FI kPu (w.heap.size + 1 + 1 + 1) w2 (.slice B1 n.length d1) n from FI.lower h1 (by simpa [World.setCell] using hs3)); have K2 := Aside0.mk (show KA (w.heap.size + 1 + 1 + 1) w1 w2 from (KA.set _ (by omega) _).trans (KA.below hb)); have HB2 := Aside0.mk (below_then (HB1.out.setCell (p := ⟨w.heap.size + 1 + 1, 0, none⟩) (by show w.heap.size ≤ w.heap.size + 1 + 1; omega) _) (by have := HB1.out.size; simpa [World.setCell] using this) hb); have HY2 := Aside0.mk (blk_below (blk_far HY1.out (by show w.heap.size + 1 ≠ w.heap.size + 1 + 1; omega) _) hb); have HZ2 := Aside0.mk (blk_below (blk_put HZ1.out 0 _ rfl) hb); clear hfx hfy hzy hfz hzz; have hfy := fun i => blk_cell HY2.out i; have hzy := fun i => blk_frozen HY2.out i; have hfz := fun i => blk_cell HZ2.out i; have hzz := fun i => blk_frozen HZ2.out i; clear h1 hb hs3)))
  refine bodyPost_ret (results_ct rfl _ _ (w.heap.size + 1) 168 #[.slice B0 p.length d0, .slice B1 n.length d1] (0, 0) _ rfl (blk_put (blk_put (blk_far HY2.out (by show w.heap.size + 1 ≠ w.heap.size + 1 + 1; omega) _) 0 _ rfl) 1 _ rfl) Try.underlying168 rfl (by kernel_rfl)) rfl ?_
  exact ⟨_, _, rfl, F0.out.at_ (K2.out.trans (((KA.set _ (by omega) _).trans (KA.set _ (by omega) _)).trans (KA.set _ (by omega) _))), F1.out.at_ (((KA.set _ (by omega) _).trans (KA.set _ (by omega) _)).trans (KA.set _ (by omega) _)), ((HB2.out.setCell (p := ⟨w.heap.size + 1 + 1, 1, none⟩) (by show w.heap.size ≤ w.heap.size + 1 + 1; omega) _).setCell (p := ⟨w.heap.size + 1, 0, none⟩) (by show w.heap.size ≤ w.heap.size + 1; omega) _).setCell (p := ⟨w.heap.size + 1, 1, none⟩) (by show w.heap.size ≤ w.heap.size + 1; omega) _⟩
end Go.Proofs.Ytacgeafjilipdaa.P
namespace Go.Proofs.Ytacgeafjilipdaa.P
open Go.RowKit Go.Shelf Go.Proofs.YtacgeafjilipdaaW.PrintWords Go.Proofs.YtacgeafjilipdaaW.PrintLast Go.Proofs.YtacgeafjilipdaaW.PrintMore
set_option linter.unusedVariables false
set_option linter.unusedSimpArgs false
theorem heads_eq (s z ct zc t o c zz : Int) : reset_heads.f s z ct zc t o c zz = some (numsV s t z o ct c zc zz) := by
  unfold reset_heads.f numsV
  by_cases h1 : s = t <;> by_cases h2 : z = o <;> by_cases h3 : c < ct <;> by_cases h4 : zz < zc <;> simp [h1, h2, h3, h4]
theorem SI.slc {α : Type} {d : Kd α} {w : World} {v : Value} {l : List α} (h : SI d w v l) : ∃ A c, v = .slice A l.length c := by
  obtain ⟨A, c, e, -⟩ := h
  exact ⟨A, c, e⟩
theorem lessI_c (a b : List Pr) (ha : Ups (fun q : Pr => q.f0) a) (hb : Ups (fun q : Pr => q.f0) b) (hm : a.length ≤ 4096) (w : World) (u v : Value) (hu : SI kPr w u a) (hv : SI kPr w v b) : Calls Try.prog 175 #[u, v] w fun e w' => e = .returned (.tuple #[.int .i64 (lessI a b).1, .bool (lessI a b).2]) ∧ Below w.heap.size w w' := by
  obtain ⟨A, c, rfl, hc, hr⟩ := hu
  obtain ⟨B, d, rfl, hd, hs⟩ := hv
  exact reset_less_int64.calls (a.length * 5 + b.length + 2) A c a (fun k => k < w.heap.size) B d b (lessI a b).1 (lessI a b).2 w hr hc ⟨_, _, rfl, hd, Kd.C_F (show Kd.Heap k26 from Kd.heap_iso _ (Kd.heap_pair (Kd.heap_int .i64) (Kd.heap_int .i64))) hs⟩ (lessI_eq a b ha hb (by omega) _ (by omega))
set_option maxHeartbeats 4000000 in
set_option maxRecDepth 100000 in
theorem verdictI_c (why : Int) (a0 a1 b0 b1 : List Pr) (l0 : ∀ w u v, SI kPr w u a0 → SI kPr w v b0 → Calls Try.prog 175 #[u, v] w fun e w' => e = .returned (.tuple #[.int .i64 (lessI a0 b0).1, .bool (lessI a0 b0).2]) ∧ Below w.heap.size w w')
    (l1 : ∀ w u v, SI kPr w u a1 → SI kPr w v b1 → Calls Try.prog 175 #[u, v] w fun e w' => e = .returned (.tuple #[.int .i64 (lessI a1 b1).1, .bool (lessI a1 b1).2]) ∧ Below w.heap.size w w')
    (w : World) (u0 u1 v0 v1 : Value) (hu0 : SI kPr w u0 a0) (hu1 : SI kPr w u1 a1) (hv0 : SI kPr w v0 b0) (hv1 : SI kPr w v1 b1) : Calls Try.prog 136 #[.int .i64 why, .agg #[u0, u1], .agg #[v0, v1]] w fun e w' =>
    e = .returned (.agg #[.int .i64 (verdR why (lessI a0 b0) (lessI a1 b1)).1, .int .i64 (verdR why (lessI a0 b0) (lessI a1 b1)).2]) ∧ Below w.heap.size w w' := by
  have hua := Try.underlying158
  have huv := Try.underlying67
  generalize lessI a0 b0 = r0 at *
  generalize lessI a1 b1 = r1 at *
  obtain ⟨p, ok⟩ := r0
  obtain ⟨q, ok1⟩ := r1
  simp only at l0 l1
  have L0 := Aside0.mk l0
  have L1 := Aside0.mk l1
  clear l0 l1
  have hu0' := hu0; have hu1' := hu1; have hv0' := hv0; have hv1' := hv1
  obtain ⟨A0, c0, e0, -⟩ := hu0'; subst e0
  obtain ⟨A1, c1, e1, -⟩ := hu1'; subst e1
  obtain ⟨D0, d0, e2, -⟩ := hv0'; subst e2
  obtain ⟨D1, d1, e3, -⟩ := hv1'; subst e3
  have B := Aside0.mk (below_alloc (below_alloc (below_alloc (Below.refl w.heap.size w) (.cells #[.slice A0 a0.length c0, .slice A1 a1.length c1] 158)) (.cells #[.slice D0 b0.length d0, .slice D1 b1.length d1] 158)) (.cells #[.int .i64 0, .int .i64 0] 67))
  have X := Aside0.mk (((Blk.new w #[.slice A0 a0.length c0, .slice A1 a1.length c1] 158).alloc (.cells #[.slice D0 b0.length d0, .slice D1 b1.length d1] 158)).alloc (.cells #[.int .i64 0, .int .i64 0] 67))
  have Y := Aside0.mk ((Blk.at1 (w := w) (.cells #[.slice A0 a0.length c0, .slice A1 a1.length c1] 158) #[.slice D0 b0.length d0, .slice D1 b1.length d1] 158).alloc (.cells #[.int .i64 0, .int .i64 0] 67))
  have Z := Aside0.mk (show Blk (((w.alloc (.cells #[.slice A0 a0.length c0, .slice A1 a1.length c1] 158)).alloc (.cells #[.slice D0 b0.length d0, .slice D1 b1.length d1] 158)).alloc (.cells #[.int .i64 0, .int .i64 0] 67)) (w.heap.size + 1 + 1) #[.int .i64 0, .int .i64 0] 67 by have := Blk.new ((w.alloc (.cells #[.slice A0 a0.length c0, .slice A1 a1.length c1] 158)).alloc (.cells #[.slice D0 b0.length d0, .slice D1 b1.length d1] 158)) #[.int .i64 0, .int .i64 0] 67; simpa using this)
  have hx := fun i => X.out.cell i
  have hy := fun i => Y.out.cell i
  have hz := fun i => Z.out.cell i
  have zz := fun i => blk_frozen Z.out i
  have SA0 := Aside0.mk (hu0.below B.out)
  have SA1 := Aside0.mk (hu1.below B.out)
  have SB0 := Aside0.mk (hv0.below B.out)
  have SB1 := Aside0.mk (hv1.below B.out)
  clear hu0 hu1 hv0 hv1
  unfold verdR
  by_cases cw : why = 0
  rotate_left
  · rw [if_pos cw]
    have cw1 : (why != 0) = true := bne_iff_ne.2 cw
    clear cw
    go_enter Try.func136, Try.ntmps136
    go_wp2
    refine bodyPost_ret (results_cell_row rfl _ _ (w.heap.size + 1 + 1) 67 #[.int .i64 why, .int .i64 0] (0, 0) _ rfl (show Blk _ _ _ _ by have := Blk.new ((w.alloc (.cells #[.slice A0 a0.length c0, .slice A1 a1.length c1] 158)).alloc (.cells #[.slice D0 b0.length d0, .slice D1 b1.length d1] 158)) #[.int .i64 why, .int .i64 0] 67; simpa using this) Try.underlying67 rfl (by kernel_rfl)) rfl ?_
    exact ⟨rfl, below_alloc (below_alloc (below_alloc (Below.refl _ _) _) _) _⟩
  rw [if_neg (by simp [cw])]
  have cw1 : (why != 0) = false := by rw [cw]; rfl
  subst cw
  cases ok with
  | true =>
    simp only [if_true]
    go_enter Try.func136, Try.ntmps136
    go_wp2_with (first | (go_at_call 175; (with_reducible refine (L0.out _ _ _ SA0.out SB0.out).mono ?_); rintro e W1 ⟨rfl, hb⟩; replace B := Aside0.mk (below_then B.out B.out.size hb); replace SA0 := Aside0.mk (SA0.out.below hb); replace SA1 := Aside0.mk (SA1.out.below hb); replace SB0 := Aside0.mk (SB0.out.below hb); replace SB1 := Aside0.mk (SB1.out.below hb); replace X := Aside0.mk (X.out.below hb); replace hx := fun i => X.out.cell i; replace Y := Aside0.mk (Y.out.below hb); replace hy := fun i => Y.out.cell i; replace Z := Aside0.mk (Z.out.below hb); replace hz := fun i => Z.out.cell i; replace zz := fun i => blk_frozen Z.out i; clear  hb))
    refine bodyPost_ret (results_cell_row rfl _ _ (w.heap.size + 1 + 1) 67 #[_, _] (0, 0) _ rfl (blk_put (blk_put Z.out 0 _ rfl) 1 _ rfl) Try.underlying67 rfl (by kernel_rfl)) rfl ?_
    exact ⟨rfl, belowS B.out.size B.out (by omega)⟩
  | false =>
    cases ok1 with
    | true =>
      simp only [if_true, Bool.false_eq_true, if_false]
      go_enter Try.func136, Try.ntmps136
      go_wp2_with (first | (go_at_call 175; (with_reducible refine (L0.out _ _ _ SA0.out SB0.out).mono ?_); rintro e W1 ⟨rfl, hb⟩; replace B := Aside0.mk (below_then B.out B.out.size hb); replace SA0 := Aside0.mk (SA0.out.below hb); replace SA1 := Aside0.mk (SA1.out.below hb); replace SB0 := Aside0.mk (SB0.out.below hb); replace SB1 := Aside0.mk (SB1.out.below hb); replace X := Aside0.mk (X.out.below hb); replace hx := fun i => X.out.cell i; replace Y := Aside0.mk (Y.out.below hb); replace hy := fun i => Y.out.cell i; replace Z := Aside0.mk (Z.out.below hb); replace hz := fun i => Z.out.cell i; replace zz := fun i => blk_frozen Z.out i; clear  hb) | (go_at_call 175; (with_reducible refine (L1.out _ _ _ SA1.out SB1.out).mono ?_); rintro e W2 ⟨rfl, hb⟩; replace B := Aside0.mk (below_then B.out B.out.size hb); replace SA0 := Aside0.mk (SA0.out.below hb); replace SA1 := Aside0.mk (SA1.out.below hb); replace SB0 := Aside0.mk (SB0.out.below hb); replace SB1 := Aside0.mk (SB1.out.below hb); replace X := Aside0.mk (X.out.below hb); replace hx := fun i => X.out.cell i; replace Y := Aside0.mk (Y.out.below hb); replace hy := fun i => Y.out.cell i; replace Z := Aside0.mk (Z.out.below hb); replace hz := fun i => Z.out.cell i; replace zz := fun i => blk_frozen Z.out i; clear  hb))
      refine bodyPost_ret (results_cell_row rfl _ _ (w.heap.size + 1 + 1) 67 #[_, _] (0, 0) _ rfl (blk_put (blk_put Z.out 0 _ rfl) 1 _ rfl) Try.underlying67 rfl (by kernel_rfl)) rfl ?_
      exact ⟨rfl, belowS B.out.size B.out (by omega)⟩
    | false =>
      simp only [Bool.false_eq_true, if_false]
      go_enter Try.func136, Try.ntmps136
      go_wp2_with (first | (go_at_call 175; (with_reducible refine (L0.out _ _ _ SA0.out SB0.out).mono ?_); rintro e W1 ⟨rfl, hb⟩; replace B := Aside0.mk (below_then B.out B.out.size hb); replace SA0 := Aside0.mk (SA0.out.below hb); replace SA1 := Aside0.mk (SA1.out.below hb); replace SB0 := Aside0.mk (SB0.out.below hb); replace SB1 := Aside0.mk (SB1.out.below hb); replace X := Aside0.mk (X.out.below hb); replace hx := fun i => X.out.cell i; replace Y := Aside0.mk (Y.out.below hb); replace hy := fun i => Y.out.cell i; replace Z := Aside0.mk (Z.out.below hb); replace hz := fun i => Z.out.cell i; replace zz := fun i => blk_frozen Z.out i; clear  hb) | (go_at_call 175; (with_reducible refine (L1.out _ _ _ SA1.out SB1.out).mono ?_); rintro e W2 ⟨rfl, hb⟩; replace B := Aside0.mk (below_then B.out B.out.size hb); replace SA0 := Aside0.mk (SA0.out.below hb); replace SA1 := Aside0.mk (SA1.out.below hb); replace SB0 := Aside0.mk (SB0.out.below hb); replace SB1 := Aside0.mk (SB1.out.below hb); replace X := Aside0.mk (X.out.below hb); replace hx := fun i => X.out.cell i; replace Y := Aside0.mk (Y.out.below hb); replace hy := fun i => Y.out.cell i; replace Z := Aside0.mk (Z.out.below hb); replace hz := fun i => Z.out.cell i; replace zz := fun i => blk_frozen Z.out i; clear  hb))
      refine bodyPost_ret (results_cell_row rfl _ _ (w.heap.size + 1 + 1) 67 #[_, _] (0, 0) _ rfl (blk_put (blk_put Z.out 0 _ rfl) 1 _ rfl) Try.underlying67 rfl (by kernel_rfl)) rfl ?_
      exact ⟨rfl, belowS B.out.size B.out (by omega)⟩
theorem headsI_c (a b : Hi) (w : World) : Calls Try.prog 137 #[.agg #[.int .i64 a.f0, .int .u64 a.f1, .int .u64 a.f3, .int .u64 a.f2], .agg #[.int .i64 b.f0, .int .u64 b.f1, .int .u64 b.f3, .int .u64 b.f2]] w fun e w' => e = .returned (.int .i64 (headsR a b)) ∧ Below w.heap.size w w' :=
  reset_heads.calls _ _ _ _ _ _ _ _ _ w (heads_eq _ _ _ _ _ _ _ _)
set_option maxHeartbeats 16000000 in
set_option maxRecDepth 100000 in
theorem resetI_c (a b : Hi) (hwa : wfH a) (hwb : wfH b) (w : World) (u v : Value) (hu : HI w u a) (hv : HI w v b) : Calls Try.prog 56 #[u, v] w fun e w' =>
    e = .returned (.tuple #[.agg #[.int .i64 (intsR a b).1.1, .int .i64 (intsR a b).1.2], .int .i64 (intsR a b).2]) ∧ Below w.heap.size w w' := by
  have hud := Try.underlying64
  have hua := Try.underlying158
  have huv := Try.underlying67
  have ka := sidesI_c a hwa
  have kb := sidesI_c b hwb
  have hd := headsI_c a b
  have ra := openR_row hwa
  have rb := openR_row hwb
  have vd := verdictI_c (headsR a b) (openR a).1 (openR a).2.1 (openR b).1 (openR b).2.1 (lessI_c _ _ ra.1.ups rb.1.ups ra.1.len) (lessI_c _ _ ra.2.ups rb.2.ups ra.2.len)
  unfold intsR intsV
  generalize verdR (headsR a b) (lessI (openR a).1 (openR b).1) (lessI (openR a).2.1 (openR b).2.1) = r at *
  obtain ⟨r1, r2⟩ := r
  generalize headsR a b = hd0 at *
  generalize (openR a).1 = x0 at *
  generalize (openR a).2.1 = x1 at *
  generalize (openR b).1 = y0 at *
  generalize (openR b).2.1 = y1 at *
  generalize checkR a = ea at *
  generalize checkR b = eb at *
  have KA := Aside0.mk ka
  have KB := Aside0.mk kb
  have HD := Aside0.mk hd
  have VD := Aside0.mk vd
  clear ka kb hd vd ra rb hwa hwb
  obtain ⟨A5a, c5a, A6a, c6a, A7a, c7a, A8a, c8a, e, -⟩ := hu.open_
  subst e
  obtain ⟨A5b, c5b, A6b, c6b, A7b, c7b, A8b, c8b, e, -⟩ := hv.open_
  subst e
  have B := Aside0.mk (below_alloc (below_alloc (below_alloc (Below.refl w.heap.size w) (.cells #[.int .i64 a.f0, .int .u64 a.f1, .int .u64 a.f2, .int .u64 a.f3, .int .u64 a.f4, .slice A5a a.f5.length c5a, .slice A6a a.f6.length c6a, .slice A7a a.f7.length c7a, .slice A8a a.f8.length c8a] 64)) (.cells #[.int .i64 b.f0, .int .u64 b.f1, .int .u64 b.f2, .int .u64 b.f3, .int .u64 b.f4, .slice A5b b.f5.length c5b, .slice A6b b.f6.length c6b, .slice A7b b.f7.length c7b, .slice A8b b.f8.length c8b] 64)) (.cells #[.int .i64 0, .int .i64 0] 67))
  have X := Aside0.mk (((Blk.new w #[.int .i64 a.f0, .int .u64 a.f1, .int .u64 a.f2, .int .u64 a.f3, .int .u64 a.f4, .slice A5a a.f5.length c5a, .slice A6a a.f6.length c6a, .slice A7a a.f7.length c7a, .slice A8a a.f8.length c8a] 64).alloc (.cells #[.int .i64 b.f0, .int .u64 b.f1, .int .u64 b.f2, .int .u64 b.f3, .int .u64 b.f4, .slice A5b b.f5.length c5b, .slice A6b b.f6.length c6b, .slice A7b b.f7.length c7b, .slice A8b b.f8.length c8b] 64)).alloc (.cells #[.int .i64 0, .int .i64 0] 67))
  have Y := Aside0.mk ((Blk.at1 (w := w) (.cells #[.int .i64 a.f0, .int .u64 a.f1, .int .u64 a.f2, .int .u64 a.f3, .int .u64 a.f4, .slice A5a a.f5.length c5a, .slice A6a a.f6.length c6a, .slice A7a a.f7.length c7a, .slice A8a a.f8.length c8a] 64) #[.int .i64 b.f0, .int .u64 b.f1, .int .u64 b.f2, .int .u64 b.f3, .int .u64 b.f4, .slice A5b b.f5.length c5b, .slice A6b b.f6.length c6b, .slice A7b b.f7.length c7b, .slice A8b b.f8.length c8b] 64).alloc (.cells #[.int .i64 0, .int .i64 0] 67))
  have Z := Aside0.mk (show Blk (((w.alloc (.cells #[.int .i64 a.f0, .int .u64 a.f1, .int .u64 a.f2, .int .u64 a.f3, .int .u64 a.f4, .slice A5a a.f5.length c5a, .slice A6a a.f6.length c6a, .slice A7a a.f7.length c7a, .slice A8a a.f8.length c8a] 64)).alloc (.cells #[.int .i64 b.f0, .int .u64 b.f1, .int .u64 b.f2, .int .u64 b.f3, .int .u64 b.f4, .slice A5b b.f5.length c5b, .slice A6b b.f6.length c6b, .slice A7b b.f7.length c7b, .slice A8b b.f8.length c8b] 64)).alloc (.cells #[.int .i64 0, .int .i64 0] 67)) (w.heap.size + 1 + 1) #[.int .i64 0, .int .i64 0] 67 by have := Blk.new ((w.alloc (.cells #[.int .i64 a.f0, .int .u64 a.f1, .int .u64 a.f2, .int .u64 a.f3, .int .u64 a.f4, .slice A5a a.f5.length c5a, .slice A6a a.f6.length c6a, .slice A7a a.f7.length c7a, .slice A8a a.f8.length c8a] 64)).alloc (.cells #[.int .i64 b.f0, .int .u64 b.f1, .int .u64 b.f2, .int .u64 b.f3, .int .u64 b.f4, .slice A5b b.f5.length c5b, .slice A6b b.f6.length c6b, .slice A7b b.f7.length c7b, .slice A8b b.f8.length c8b] 64)) #[.int .i64 0, .int .i64 0] 67; simpa using this)
  have hx := fun i => X.out.cell i
  have hy := fun i => Y.out.cell i
  have hz := fun i => Z.out.cell i
  have zz := fun i => blk_frozen Z.out i
  have HA := Aside0.mk (hu.below B.out)
  have HC := Aside0.mk (hv.below B.out)
  clear hu hv
  by_cases c1 : ea = 0
  rotate_left
  · rw [if_pos c1]
    have d1 : (ea != 0) = true := bne_iff_ne.2 c1
    clear c1
    go_enter Try.func56, Try.ntmps56
    go_wp2_with (first | (go_at_call 135; (with_reducible refine (KA.out _ _ HA.out).mono ?_); rintro e W1 ⟨v0, v1, rfl, h0, h1, hb⟩; replace B := Aside0.mk (below_then B.out B.out.size hb); replace HA := Aside0.mk (HA.out.below hb); replace HC := Aside0.mk (HC.out.below hb); replace X := Aside0.mk (X.out.below hb); replace hx := fun i => X.out.cell i; replace Y := Aside0.mk (Y.out.below hb); replace hy := fun i => Y.out.cell i; replace Z := Aside0.mk (Z.out.below hb); replace hz := fun i => Z.out.cell i; replace zz := fun i => blk_frozen Z.out i; have SA0 := Aside0.mk h0; have SA1 := Aside0.mk h1; have e0' := SA0.out; have e1' := SA1.out; obtain ⟨P0, q0, e0⟩ := e0'.slc; subst e0; obtain ⟨P1, q1, e1⟩ := e1'.slc; subst e1; have hsz1 := blk_lt Z.out; have hxa := fun i => (X.out.alloc (.cells #[.slice P0 x0.length q0, .slice P1 x1.length q1] 158)).cell i; have hya := fun i => (Y.out.alloc (.cells #[.slice P0 x0.length q0, .slice P1 x1.length q1] 158)).cell i; have hza := fun i => (Z.out.alloc (.cells #[.slice P0 x0.length q0, .slice P1 x1.length q1] 158)).cell i; clear h0 h1 hb; have zza := fun i => blk_frozen (Z.out.alloc (.cells #[.slice P0 x0.length q0, .slice P1 x1.length q1] 158)) i))
    refine bodyPost_ret (results_ct rfl _ _ (w.heap.size + 1 + 1) 67 #[_, _] (0, 0) _ rfl (Blk.alloc (show Blk _ _ _ _ from blk_put (blk_put Z.out 0 _ rfl) 1 _ rfl) _) Try.underlying67 rfl (by kernel_rfl)) rfl ?_
    exact ⟨rfl, below_alloc (belowS B.out.size B.out (by omega)) _⟩
  subst c1
  rw [if_neg (by simp)]
  by_cases c2 : eb = 0
  rotate_left
  · rw [if_pos c2]
    have d2 : (eb != 0) = true := bne_iff_ne.2 c2
    clear c2
    go_enter Try.func56, Try.ntmps56
    go_wp2_with (first | (go_at_call 135; (with_reducible refine (KA.out _ _ HA.out).mono ?_); rintro e W1 ⟨v0, v1, rfl, h0, h1, hb⟩; replace B := Aside0.mk (below_then B.out B.out.size hb); replace HA := Aside0.mk (HA.out.below hb); replace HC := Aside0.mk (HC.out.below hb); replace X := Aside0.mk (X.out.below hb); replace hx := fun i => X.out.cell i; replace Y := Aside0.mk (Y.out.below hb); replace hy := fun i => Y.out.cell i; replace Z := Aside0.mk (Z.out.below hb); replace hz := fun i => Z.out.cell i; replace zz := fun i => blk_frozen Z.out i; have SA0 := Aside0.mk h0; have SA1 := Aside0.mk h1; have e0' := SA0.out; have e1' := SA1.out; obtain ⟨P0, q0, e0⟩ := e0'.slc; subst e0; obtain ⟨P1, q1, e1⟩ := e1'.slc; subst e1; have hsz1 := blk_lt Z.out; have hxa := fun i => (X.out.alloc (.cells #[.slice P0 x0.length q0, .slice P1 x1.length q1] 158)).cell i; have hya := fun i => (Y.out.alloc (.cells #[.slice P0 x0.length q0, .slice P1 x1.length q1] 158)).cell i; have hza := fun i => (Z.out.alloc (.cells #[.slice P0 x0.length q0, .slice P1 x1.length q1] 158)).cell i; clear h0 h1 hb))
    (try clear hxa hya hza)
    have hal := below_alloc (Below.refl W1.heap.size W1) (.cells #[.slice P0 x0.length q0, .slice P1 x1.length q1] 158)
    replace B := Aside0.mk (below_then B.out B.out.size hal)
    replace HA := Aside0.mk (HA.out.below hal)
    replace HC := Aside0.mk (HC.out.below hal)
    replace SA0 := Aside0.mk (SA0.out.below hal)
    replace SA1 := Aside0.mk (SA1.out.below hal)
    replace X := Aside0.mk (X.out.alloc (.cells #[.slice P0 x0.length q0, .slice P1 x1.length q1] 158)); replace hx := fun i => X.out.cell i
    replace Y := Aside0.mk (Y.out.alloc (.cells #[.slice P0 x0.length q0, .slice P1 x1.length q1] 158)); replace hy := fun i => Y.out.cell i
    replace Z := Aside0.mk (Z.out.alloc (.cells #[.slice P0 x0.length q0, .slice P1 x1.length q1] 158)); replace hz := fun i => Z.out.cell i
    have U := Aside0.mk (Blk.new W1 #[.slice P0 x0.length q0, .slice P1 x1.length q1] 158); have hu := fun i => U.out.cell i; clear hal
    go_wp2_with (first | (go_at_call 135; (with_reducible refine (KB.out _ _ HC.out).mono ?_); rintro e W2 ⟨v2, v3, rfl, h0, h1, hb⟩; replace B := Aside0.mk (below_then B.out B.out.size hb); replace HA := Aside0.mk (HA.out.below hb); replace HC := Aside0.mk (HC.out.below hb); replace SA0 := Aside0.mk (SA0.out.below hb); replace SA1 := Aside0.mk (SA1.out.below hb); replace X := Aside0.mk (X.out.below hb); replace hx := fun i => X.out.cell i; replace Y := Aside0.mk (Y.out.below hb); replace hy := fun i => Y.out.cell i; replace Z := Aside0.mk (Z.out.below hb); replace hz := fun i => Z.out.cell i; replace zz := fun i => blk_frozen Z.out i; replace U := Aside0.mk (U.out.below hb); replace hu := fun i => U.out.cell i; have SB0 := Aside0.mk h0; have SB1 := Aside0.mk h1; have e0' := SB0.out; have e1' := SB1.out; obtain ⟨P2, q2, e0⟩ := e0'.slc; subst e0; obtain ⟨P3, q3, e1⟩ := e1'.slc; subst e1; have hsz2 := blk_lt Z.out; have hxa := fun i => (X.out.alloc (.cells #[.slice P2 y0.length q2, .slice P3 y1.length q3] 158)).cell i; have hya := fun i => (Y.out.alloc (.cells #[.slice P2 y0.length q2, .slice P3 y1.length q3] 158)).cell i; have hza := fun i => (Z.out.alloc (.cells #[.slice P2 y0.length q2, .slice P3 y1.length q3] 158)).cell i; have hua := fun i => (U.out.alloc (.cells #[.slice P2 y0.length q2, .slice P3 y1.length q3] 158)).cell i; clear h0 h1 hb; have zza := fun i => blk_frozen (Z.out.alloc (.cells #[.slice P2 y0.length q2, .slice P3 y1.length q3] 158)) i))
    refine bodyPost_ret (results_ct rfl _ _ (w.heap.size + 1 + 1) 67 #[_, _] (0, 0) _ rfl (Blk.alloc (show Blk _ _ _ _ from blk_put (blk_put Z.out 0 _ rfl) 1 _ rfl) _) Try.underlying67 rfl (by kernel_rfl)) rfl ?_
    exact ⟨rfl, below_alloc (belowS B.out.size B.out (by omega)) _⟩
  subst c2
  rw [if_neg (by simp)]
  go_enter Try.func56, Try.ntmps56
  go_wp2_with (first | (go_at_call 135; (with_reducible refine (KA.out _ _ HA.out).mono ?_); rintro e W1 ⟨v0, v1, rfl, h0, h1, hb⟩; replace B := Aside0.mk (below_then B.out B.out.size hb); replace HA := Aside0.mk (HA.out.below hb); replace HC := Aside0.mk (HC.out.below hb); replace X := Aside0.mk (X.out.below hb); replace hx := fun i => X.out.cell i; replace Y := Aside0.mk (Y.out.below hb); replace hy := fun i => Y.out.cell i; replace Z := Aside0.mk (Z.out.below hb); replace hz := fun i => Z.out.cell i; replace zz := fun i => blk_frozen Z.out i; have SA0 := Aside0.mk h0; have SA1 := Aside0.mk h1; have e0' := SA0.out; have e1' := SA1.out; obtain ⟨P0, q0, e0⟩ := e0'.slc; subst e0; obtain ⟨P1, q1, e1⟩ := e1'.slc; subst e1; have hsz1 := blk_lt Z.out; have hxa := fun i => (X.out.alloc (.cells #[.slice P0 x0.length q0, .slice P1 x1.length q1] 158)).cell i; have hya := fun i => (Y.out.alloc (.cells #[.slice P0 x0.length q0, .slice P1 x1.length q1] 158)).cell i; have hza := fun i => (Z.out.alloc (.cells #[.slice P0 x0.length q0, .slice P1 x1.length q1] 158)).cell i; clear h0 h1 hb))
  (try clear hxa hya hza)
  have hal := below_alloc (Below.refl W1.heap.size W1) (.cells #[.slice P0 x0.length q0, .slice P1 x1.length q1] 158)
  replace B := Aside0.mk (below_then B.out B.out.size hal)
  replace HA := Aside0.mk (HA.out.below hal)
  replace HC := Aside0.mk (HC.out.below hal)
  replace SA0 := Aside0.mk (SA0.out.below hal)
  replace SA1 := Aside0.mk (SA1.out.below hal)
  replace X := Aside0.mk (X.out.alloc (.cells #[.slice P0 x0.length q0, .slice P1 x1.length q1] 158)); replace hx := fun i => X.out.cell i
  replace Y := Aside0.mk (Y.out.alloc (.cells #[.slice P0 x0.length q0, .slice P1 x1.length q1] 158)); replace hy := fun i => Y.out.cell i
  replace Z := Aside0.mk (Z.out.alloc (.cells #[.slice P0 x0.length q0, .slice P1 x1.length q1] 158)); replace hz := fun i => Z.out.cell i
  have U := Aside0.mk (Blk.new W1 #[.slice P0 x0.length q0, .slice P1 x1.length q1] 158); have hu := fun i => U.out.cell i; clear hal
  go_wp2_with (first | (go_at_call 135; (with_reducible refine (KB.out _ _ HC.out).mono ?_); rintro e W2 ⟨v2, v3, rfl, h0, h1, hb⟩; replace B := Aside0.mk (below_then B.out B.out.size hb); replace HA := Aside0.mk (HA.out.below hb); replace HC := Aside0.mk (HC.out.below hb); replace SA0 := Aside0.mk (SA0.out.below hb); replace SA1 := Aside0.mk (SA1.out.below hb); replace X := Aside0.mk (X.out.below hb); replace hx := fun i => X.out.cell i; replace Y := Aside0.mk (Y.out.below hb); replace hy := fun i => Y.out.cell i; replace Z := Aside0.mk (Z.out.below hb); replace hz := fun i => Z.out.cell i; replace zz := fun i => blk_frozen Z.out i; replace U := Aside0.mk (U.out.below hb); replace hu := fun i => U.out.cell i; have SB0 := Aside0.mk h0; have SB1 := Aside0.mk h1; have e0' := SB0.out; have e1' := SB1.out; obtain ⟨P2, q2, e0⟩ := e0'.slc; subst e0; obtain ⟨P3, q3, e1⟩ := e1'.slc; subst e1; have hsz2 := blk_lt Z.out; have hxa := fun i => (X.out.alloc (.cells #[.slice P2 y0.length q2, .slice P3 y1.length q3] 158)).cell i; have hya := fun i => (Y.out.alloc (.cells #[.slice P2 y0.length q2, .slice P3 y1.length q3] 158)).cell i; have hza := fun i => (Z.out.alloc (.cells #[.slice P2 y0.length q2, .slice P3 y1.length q3] 158)).cell i; have hua := fun i => (U.out.alloc (.cells #[.slice P2 y0.length q2, .slice P3 y1.length q3] 158)).cell i; clear h0 h1 hb))
  (try clear hxa hya hza hua)
  have hal := below_alloc (Below.refl W2.heap.size W2) (.cells #[.slice P2 y0.length q2, .slice P3 y1.length q3] 158)
  replace B := Aside0.mk (below_then B.out B.out.size hal)
  replace HA := Aside0.mk (HA.out.below hal)
  replace HC := Aside0.mk (HC.out.below hal)
  replace SA0 := Aside0.mk (SA0.out.below hal)
  replace SA1 := Aside0.mk (SA1.out.below hal)
  replace SB0 := Aside0.mk (SB0.out.below hal)
  replace SB1 := Aside0.mk (SB1.out.below hal)
  replace X := Aside0.mk (X.out.alloc (.cells #[.slice P2 y0.length q2, .slice P3 y1.length q3] 158)); replace hx := fun i => X.out.cell i
  replace Y := Aside0.mk (Y.out.alloc (.cells #[.slice P2 y0.length q2, .slice P3 y1.length q3] 158)); replace hy := fun i => Y.out.cell i
  replace Z := Aside0.mk (Z.out.alloc (.cells #[.slice P2 y0.length q2, .slice P3 y1.length q3] 158)); replace hz := fun i => Z.out.cell i
  replace U := Aside0.mk (U.out.alloc (.cells #[.slice P2 y0.length q2, .slice P3 y1.length q3] 158)); replace hu := fun i => U.out.cell i
  have V := Aside0.mk (Blk.new W2 #[.slice P2 y0.length q2, .slice P3 y1.length q3] 158); have hv := fun i => V.out.cell i; clear hal
  replace HA := Aside0.mk (HA.out.below (below_drew (Below.refl _ _)))
  replace HC := Aside0.mk (HC.out.below (below_drew (Below.refl _ _)))
  replace SA0 := Aside0.mk (SA0.out.below (below_drew (Below.refl _ _)))
  replace SA1 := Aside0.mk (SA1.out.below (below_drew (Below.refl _ _)))
  replace SB0 := Aside0.mk (SB0.out.below (below_drew (Below.refl _ _)))
  replace SB1 := Aside0.mk (SB1.out.below (below_drew (Below.refl _ _)))
  replace X := Aside0.mk (X.out.below (below_drew (Below.refl _ _)))
  replace Y := Aside0.mk (Y.out.below (below_drew (Below.refl _ _)))
  replace Z := Aside0.mk (Z.out.below (below_drew (Below.refl _ _)))
  replace U := Aside0.mk (U.out.below (below_drew (Below.refl _ _)))
  replace V := Aside0.mk (V.out.below (below_drew (Below.refl _ _)))
  replace B := Aside0.mk (below_drew B.out)
  go_region_held3 (fun W => (∀ i, W.cell? ⟨w.heap.size, i, none⟩ = (#[.int .i64 a.f0, .int .u64 a.f1, .int .u64 a.f2, .int .u64 a.f3, .int .u64 a.f4, .slice A5a a.f5.length c5a, .slice A6a a.f6.length c6a, .slice A7a a.f7.length c7a, .slice A8a a.f8.length c8a] : Array Value)[i]?) ∧ (∀ i, W.cell? ⟨w.heap.size + 1, i, none⟩ = (#[.int .i64 b.f0, .int .u64 b.f1, .int .u64 b.f2, .int .u64 b.f3, .int .u64 b.f4, .slice A5b b.f5.length c5b, .slice A6b b.f6.length c6b, .slice A7b b.f7.length c7b, .slice A8b b.f8.length c8b] : Array Value)[i]?) ∧ (∀ i, W.cell? ⟨W1.heap.size, i, none⟩ = (#[.slice P0 x0.length q0, .slice P1 x1.length q1] : Array Value)[i]?) ∧ (∀ i, W.cell? ⟨W2.heap.size, i, none⟩ = (#[.slice P2 y0.length q2, .slice P3 y1.length q3] : Array Value)[i]?)) (first | exact ⟨fun i => X.out.cell i, fun i => Y.out.cell i, fun i => U.out.cell i, fun i => V.out.cell i⟩ | exact ⟨fun i => blk_cell (blk_far X.out (by show w.heap.size ≠ w.heap.size + 1 + 1; omega) _) i, fun i => blk_cell (blk_far Y.out (by show w.heap.size + 1 ≠ w.heap.size + 1 + 1; omega) _) i, fun i => blk_cell (blk_far U.out (by show W1.heap.size ≠ w.heap.size + 1 + 1; omega) _) i, fun i => blk_cell (blk_far V.out (by show W2.heap.size ≠ w.heap.size + 1 + 1; omega) _) i⟩ | exact ⟨fun i => blk_cell (blk_far (blk_far X.out (by show w.heap.size ≠ w.heap.size + 1 + 1; omega) _) (by show w.heap.size ≠ w.heap.size + 1 + 1; omega) _) i, fun i => blk_cell (blk_far (blk_far Y.out (by show w.heap.size + 1 ≠ w.heap.size + 1 + 1; omega) _) (by show w.heap.size + 1 ≠ w.heap.size + 1 + 1; omega) _) i, fun i => blk_cell (blk_far (blk_far U.out (by show W1.heap.size ≠ w.heap.size + 1 + 1; omega) _) (by show W1.heap.size ≠ w.heap.size + 1 + 1; omega) _) i, fun i => blk_cell (blk_far (blk_far V.out (by show W2.heap.size ≠ w.heap.size + 1 + 1; omega) _) (by show W2.heap.size ≠ w.heap.size + 1 + 1; omega) _) i⟩) (first | (go_at_call 137; (with_reducible refine (HD.out _).mono ?_); rintro e W3 ⟨rfl, hb⟩; replace B := Aside0.mk (below_then B.out B.out.size hb); replace HA := Aside0.mk (HA.out.below hb); replace HC := Aside0.mk (HC.out.below hb); replace SA0 := Aside0.mk (SA0.out.below hb); replace SA1 := Aside0.mk (SA1.out.below hb); replace SB0 := Aside0.mk (SB0.out.below hb); replace SB1 := Aside0.mk (SB1.out.below hb); replace X := Aside0.mk (X.out.below hb); replace hx := fun i => X.out.cell i; replace Y := Aside0.mk (Y.out.below hb); replace hy := fun i => Y.out.cell i; replace Z := Aside0.mk (Z.out.below hb); replace hz := fun i => Z.out.cell i; replace zz := fun i => blk_frozen Z.out i; replace U := Aside0.mk (U.out.below hb); replace hu := fun i => U.out.cell i; replace V := Aside0.mk (V.out.below hb); replace hv := fun i => V.out.cell i; clear  hb) | (go_at_call 136; (with_reducible refine (VD.out _ _ _ _ _ SA0.out SA1.out SB0.out SB1.out).mono ?_); rintro e W4 ⟨rfl, hb⟩; replace B := Aside0.mk (below_then B.out B.out.size hb); replace HA := Aside0.mk (HA.out.below hb); replace HC := Aside0.mk (HC.out.below hb); replace SA0 := Aside0.mk (SA0.out.below hb); replace SA1 := Aside0.mk (SA1.out.below hb); replace SB0 := Aside0.mk (SB0.out.below hb); replace SB1 := Aside0.mk (SB1.out.below hb); replace X := Aside0.mk (X.out.below hb); replace hx := fun i => X.out.cell i; replace Y := Aside0.mk (Y.out.below hb); replace hy := fun i => Y.out.cell i; replace Z := Aside0.mk (Z.out.below hb); replace hz := fun i => Z.out.cell i; replace zz := fun i => blk_frozen Z.out i; replace U := Aside0.mk (U.out.below hb); replace hu := fun i => U.out.cell i; replace V := Aside0.mk (V.out.below hb); replace hv := fun i => V.out.cell i; clear  hb))
  all_goals go_wp2
  all_goals (refine bodyPost_ret (results_ct rfl _ _ (w.heap.size + 1 + 1) 67 #[_, _] (0, 0) _ rfl (blk_put (blk_put (Z.out) 0 _ rfl) 1 _ rfl) Try.underlying67 rfl (by kernel_rfl)) rfl ?_; exact ⟨rfl, belowS B.out.size B.out (by omega)⟩)
def sameR (a b : Hi) : Bool := decide ((intsR a b).2 = 0) && decide ((intsR b a).2 = 0) && decide ((intsR a b).1 = (intsR b a).1) && decide ((intsR a b).1.1 = 0)
set_option maxHeartbeats 16000000 in
set_option maxRecDepth 100000 in
theorem same11_c (a b : Hi) (hwa : wfH a) (hwb : wfH b) (w : World) (u v : Value) (hu : HI w u a) (hv : HI w v b) : Calls Try.prog 59 #[u, v] w fun e w' => e = .returned (.bool (sameR a b)) ∧ Below w.heap.size w w' := by
  have hud := Try.underlying64
  have huv := Try.underlying67
  have ka := resetI_c a b hwa hwb
  have kb := resetI_c b a hwb hwa
  unfold sameR
  generalize intsR a b = r at *
  generalize intsR b a = s at *
  obtain ⟨⟨x1, x2⟩, e⟩ := r
  obtain ⟨⟨y1, y2⟩, f⟩ := s
  simp only at ka kb ⊢
  have KA := Aside0.mk ka
  have KB := Aside0.mk kb
  clear ka kb hwa hwb
  obtain ⟨A5a, c5a, A6a, c6a, A7a, c7a, A8a, c8a, e9, -⟩ := hu.open_
  subst e9
  obtain ⟨A5b, c5b, A6b, c6b, A7b, c7b, A8b, c8b, e9, -⟩ := hv.open_
  subst e9
  have B := Aside0.mk (below_alloc (below_alloc (Below.refl w.heap.size w) (.cells #[.int .i64 a.f0, .int .u64 a.f1, .int .u64 a.f2, .int .u64 a.f3, .int .u64 a.f4, .slice A5a a.f5.length c5a, .slice A6a a.f6.length c6a, .slice A7a a.f7.length c7a, .slice A8a a.f8.length c8a] 64)) (.cells #[.int .i64 b.f0, .int .u64 b.f1, .int .u64 b.f2, .int .u64 b.f3, .int .u64 b.f4, .slice A5b b.f5.length c5b, .slice A6b b.f6.length c6b, .slice A7b b.f7.length c7b, .slice A8b b.f8.length c8b] 64))
  have X := Aside0.mk ((Blk.new w #[.int .i64 a.f0, .int .u64 a.f1, .int .u64 a.f2, .int .u64 a.f3, .int .u64 a.f4, .slice A5a a.f5.length c5a, .slice A6a a.f6.length c6a, .slice A7a a.f7.length c7a, .slice A8a a.f8.length c8a] 64).alloc (.cells #[.int .i64 b.f0, .int .u64 b.f1, .int .u64 b.f2, .int .u64 b.f3, .int .u64 b.f4, .slice A5b b.f5.length c5b, .slice A6b b.f6.length c6b, .slice A7b b.f7.length c7b, .slice A8b b.f8.length c8b] 64))
  have Y := Aside0.mk (Blk.at1 (w := w) (.cells #[.int .i64 a.f0, .int .u64 a.f1, .int .u64 a.f2, .int .u64 a.f3, .int .u64 a.f4, .slice A5a a.f5.length c5a, .slice A6a a.f6.length c6a, .slice A7a a.f7.length c7a, .slice A8a a.f8.length c8a] 64) #[.int .i64 b.f0, .int .u64 b.f1, .int .u64 b.f2, .int .u64 b.f3, .int .u64 b.f4, .slice A5b b.f5.length c5b, .slice A6b b.f6.length c6b, .slice A7b b.f7.length c7b, .slice A8b b.f8.length c8b] 64)
  have hx := fun i => X.out.cell i
  have hy := fun i => Y.out.cell i
  have HA := Aside0.mk (hu.below B.out)
  have HC := Aside0.mk (hv.below B.out)
  clear hu hv
  have fin : ∀ t : Bool, t = (decide (e = 0) && decide (f = 0) && decide ((x1, x2) = (y1, y2)) && decide (x1 = 0)) → (decide (e = 0) && decide (f = 0) && decide ((x1, x2) = (y1, y2)) && decide (x1 = 0)) = t := fun t h => h.symm
  have FIN := Aside0.mk fin
  clear fin
  by_cases c1 : e = 0
  rotate_left
  · have d1 : (e == 0) = false := beq_eq_false_iff_ne.2 c1
    rw [FIN.out false (by rw [decide_eq_false c1]; simp)]
    clear c1 FIN
    go_enter Try.func59, Try.ntmps59
    go_wp2_with (first | (go_at_call 56; (with_reducible refine (KA.out _ _ _ HA.out HC.out).mono ?_); rintro e W1 ⟨rfl, hb⟩; replace B := Aside0.mk (below_then B.out B.out.size hb); replace HA := Aside0.mk (HA.out.below hb); replace HC := Aside0.mk (HC.out.below hb); replace X := Aside0.mk (X.out.below hb); replace hx := fun i => X.out.cell i; replace Y := Aside0.mk (Y.out.below hb); replace hy := fun i => Y.out.cell i; have hxa := fun i => (X.out.alloc (.cells #[.int .i64 x1, .int .i64 x2] 67)).cell i; have hya := fun i => (Y.out.alloc (.cells #[.int .i64 x1, .int .i64 x2] 67)).cell i; clear  hb))
    (try clear hxa hya)
    have hal := below_alloc (Below.refl W1.heap.size W1) (.cells #[.int .i64 x1, .int .i64 x2] 67)
    replace B := Aside0.mk (below_then B.out B.out.size hal)
    replace HA := Aside0.mk (HA.out.below hal)
    replace HC := Aside0.mk (HC.out.below hal)
    replace X := Aside0.mk (X.out.alloc (.cells #[.int .i64 x1, .int .i64 x2] 67)); replace hx := fun i => X.out.cell i
    replace Y := Aside0.mk (Y.out.alloc (.cells #[.int .i64 x1, .int .i64 x2] 67)); replace hy := fun i => Y.out.cell i
    have U := Aside0.mk (Blk.new W1 #[.int .i64 x1, .int .i64 x2] 67); have hu := fun i => U.out.cell i; clear hal
    go_wp2_with (first | (go_at_call 56; (with_reducible refine (KB.out _ _ _ HC.out HA.out).mono ?_); rintro e W2 ⟨rfl, hb⟩; replace B := Aside0.mk (below_then B.out B.out.size hb); replace HA := Aside0.mk (HA.out.below hb); replace HC := Aside0.mk (HC.out.below hb); replace X := Aside0.mk (X.out.below hb); replace hx := fun i => X.out.cell i; replace Y := Aside0.mk (Y.out.below hb); replace hy := fun i => Y.out.cell i; replace U := Aside0.mk (U.out.below hb); replace hu := fun i => U.out.cell i; clear  hb; have hbv := below_alloc (Below.refl W2.heap.size W2) (.cells #[.int .i64 y1, .int .i64 y2] 67); replace B := Aside0.mk (below_then B.out B.out.size hbv); have V := Aside0.mk (Blk.new W2 #[.int .i64 y1, .int .i64 y2] 67); have hv2 := fun i => V.out.cell i; replace U := Aside0.mk (U.out.below hbv); replace hu := fun i => U.out.cell i; clear hbv))
    all_goals go_ret
    all_goals exact ⟨rfl, B.out⟩
  subst c1
  by_cases c2 : f = 0
  rotate_left
  · have d1 : (f == 0) = false := beq_eq_false_iff_ne.2 c2
    rw [FIN.out false (by rw [decide_eq_false c2]; simp)]
    clear c2 FIN
    go_enter Try.func59, Try.ntmps59
    go_wp2_with (first | (go_at_call 56; (with_reducible refine (KA.out _ _ _ HA.out HC.out).mono ?_); rintro e W1 ⟨rfl, hb⟩; replace B := Aside0.mk (below_then B.out B.out.size hb); replace HA := Aside0.mk (HA.out.below hb); replace HC := Aside0.mk (HC.out.below hb); replace X := Aside0.mk (X.out.below hb); replace hx := fun i => X.out.cell i; replace Y := Aside0.mk (Y.out.below hb); replace hy := fun i => Y.out.cell i; have hxa := fun i => (X.out.alloc (.cells #[.int .i64 x1, .int .i64 x2] 67)).cell i; have hya := fun i => (Y.out.alloc (.cells #[.int .i64 x1, .int .i64 x2] 67)).cell i; clear  hb))
    (try clear hxa hya)
    have hal := below_alloc (Below.refl W1.heap.size W1) (.cells #[.int .i64 x1, .int .i64 x2] 67)
    replace B := Aside0.mk (below_then B.out B.out.size hal)
    replace HA := Aside0.mk (HA.out.below hal)
    replace HC := Aside0.mk (HC.out.below hal)
    replace X := Aside0.mk (X.out.alloc (.cells #[.int .i64 x1, .int .i64 x2] 67)); replace hx := fun i => X.out.cell i
    replace Y := Aside0.mk (Y.out.alloc (.cells #[.int .i64 x1, .int .i64 x2] 67)); replace hy := fun i => Y.out.cell i
    have U := Aside0.mk (Blk.new W1 #[.int .i64 x1, .int .i64 x2] 67); have hu := fun i => U.out.cell i; clear hal
    go_wp2_with (first | (go_at_call 56; (with_reducible refine (KB.out _ _ _ HC.out HA.out).mono ?_); rintro e W2 ⟨rfl, hb⟩; replace B := Aside0.mk (below_then B.out B.out.size hb); replace HA := Aside0.mk (HA.out.below hb); replace HC := Aside0.mk (HC.out.below hb); replace X := Aside0.mk (X.out.below hb); replace hx := fun i => X.out.cell i; replace Y := Aside0.mk (Y.out.below hb); replace hy := fun i => Y.out.cell i; replace U := Aside0.mk (U.out.below hb); replace hu := fun i => U.out.cell i; clear  hb; have hbv := below_alloc (Below.refl W2.heap.size W2) (.cells #[.int .i64 y1, .int .i64 y2] 67); replace B := Aside0.mk (below_then B.out B.out.size hbv); have V := Aside0.mk (Blk.new W2 #[.int .i64 y1, .int .i64 y2] 67); have hv2 := fun i => V.out.cell i; replace U := Aside0.mk (U.out.below hbv); replace hu := fun i => U.out.cell i; clear hbv))
    all_goals go_ret
    all_goals exact ⟨rfl, B.out⟩
  subst c2
  by_cases c3 : x1 = y1
  rotate_left
  · have d1 : (x1 == y1) = false := beq_eq_false_iff_ne.2 c3
    rw [FIN.out false (by rw [decide_eq_false (show ¬ ((x1, x2) = (y1, y2)) from fun h => c3 (by injection h))]; simp)]
    clear c3 FIN
    go_enter Try.func59, Try.ntmps59
    go_wp2_with (first | (go_at_call 56; (with_reducible refine (KA.out _ _ _ HA.out HC.out).mono ?_); rintro e W1 ⟨rfl, hb⟩; replace B := Aside0.mk (below_then B.out B.out.size hb); replace HA := Aside0.mk (HA.out.below hb); replace HC := Aside0.mk (HC.out.below hb); replace X := Aside0.mk (X.out.below hb); replace hx := fun i => X.out.cell i; replace Y := Aside0.mk (Y.out.below hb); replace hy := fun i => Y.out.cell i; have hxa := fun i => (X.out.alloc (.cells #[.int .i64 x1, .int .i64 x2] 67)).cell i; have hya := fun i => (Y.out.alloc (.cells #[.int .i64 x1, .int .i64 x2] 67)).cell i; clear  hb))
    (try clear hxa hya)
    have hal := below_alloc (Below.refl W1.heap.size W1) (.cells #[.int .i64 x1, .int .i64 x2] 67)
    replace B := Aside0.mk (below_then B.out B.out.size hal)
    replace HA := Aside0.mk (HA.out.below hal)
    replace HC := Aside0.mk (HC.out.below hal)
    replace X := Aside0.mk (X.out.alloc (.cells #[.int .i64 x1, .int .i64 x2] 67)); replace hx := fun i => X.out.cell i
    replace Y := Aside0.mk (Y.out.alloc (.cells #[.int .i64 x1, .int .i64 x2] 67)); replace hy := fun i => Y.out.cell i
    have U := Aside0.mk (Blk.new W1 #[.int .i64 x1, .int .i64 x2] 67); have hu := fun i => U.out.cell i; clear hal
    go_wp2_with (first | (go_at_call 56; (with_reducible refine (KB.out _ _ _ HC.out HA.out).mono ?_); rintro e W2 ⟨rfl, hb⟩; replace B := Aside0.mk (below_then B.out B.out.size hb); replace HA := Aside0.mk (HA.out.below hb); replace HC := Aside0.mk (HC.out.below hb); replace X := Aside0.mk (X.out.below hb); replace hx := fun i => X.out.cell i; replace Y := Aside0.mk (Y.out.below hb); replace hy := fun i => Y.out.cell i; replace U := Aside0.mk (U.out.below hb); replace hu := fun i => U.out.cell i; clear  hb; have hbv := below_alloc (Below.refl W2.heap.size W2) (.cells #[.int .i64 y1, .int .i64 y2] 67); replace B := Aside0.mk (below_then B.out B.out.size hbv); have V := Aside0.mk (Blk.new W2 #[.int .i64 y1, .int .i64 y2] 67); have hv2 := fun i => V.out.cell i; replace U := Aside0.mk (U.out.below hbv); replace hu := fun i => U.out.cell i; clear hbv))
    all_goals go_ret
    all_goals exact ⟨rfl, B.out⟩
  subst c3
  by_cases c3 : x2 = y2
  rotate_left
  · have d1 : (x2 == y2) = false := beq_eq_false_iff_ne.2 c3
    have d2 : (x1 == x1) = true := beq_self_eq_true _
    rw [FIN.out false (by rw [decide_eq_false (show ¬ ((x1, x2) = (x1, y2)) from fun h => c3 (by injection h))]; simp)]
    clear c3 FIN
    go_enter Try.func59, Try.ntmps59
    go_wp2_with (first | (go_at_call 56; (with_reducible refine (KA.out _ _ _ HA.out HC.out).mono ?_); rintro e W1 ⟨rfl, hb⟩; replace B := Aside0.mk (below_then B.out B.out.size hb); replace HA := Aside0.mk (HA.out.below hb); replace HC := Aside0.mk (HC.out.below hb); replace X := Aside0.mk (X.out.below hb); replace hx := fun i => X.out.cell i; replace Y := Aside0.mk (Y.out.below hb); replace hy := fun i => Y.out.cell i; have hxa := fun i => (X.out.alloc (.cells #[.int .i64 x1, .int .i64 x2] 67)).cell i; have hya := fun i => (Y.out.alloc (.cells #[.int .i64 x1, .int .i64 x2] 67)).cell i; clear  hb))
    (try clear hxa hya)
    have hal := below_alloc (Below.refl W1.heap.size W1) (.cells #[.int .i64 x1, .int .i64 x2] 67)
    replace B := Aside0.mk (below_then B.out B.out.size hal)
    replace HA := Aside0.mk (HA.out.below hal)
    replace HC := Aside0.mk (HC.out.below hal)
    replace X := Aside0.mk (X.out.alloc (.cells #[.int .i64 x1, .int .i64 x2] 67)); replace hx := fun i => X.out.cell i
    replace Y := Aside0.mk (Y.out.alloc (.cells #[.int .i64 x1, .int .i64 x2] 67)); replace hy := fun i => Y.out.cell i
    have U := Aside0.mk (Blk.new W1 #[.int .i64 x1, .int .i64 x2] 67); have hu := fun i => U.out.cell i; clear hal
    go_wp2_with (first | (go_at_call 56; (with_reducible refine (KB.out _ _ _ HC.out HA.out).mono ?_); rintro e W2 ⟨rfl, hb⟩; replace B := Aside0.mk (below_then B.out B.out.size hb); replace HA := Aside0.mk (HA.out.below hb); replace HC := Aside0.mk (HC.out.below hb); replace X := Aside0.mk (X.out.below hb); replace hx := fun i => X.out.cell i; replace Y := Aside0.mk (Y.out.below hb); replace hy := fun i => Y.out.cell i; replace U := Aside0.mk (U.out.below hb); replace hu := fun i => U.out.cell i; clear  hb; have hbv := below_alloc (Below.refl W2.heap.size W2) (.cells #[.int .i64 x1, .int .i64 y2] 67); replace B := Aside0.mk (below_then B.out B.out.size hbv); have V := Aside0.mk (Blk.new W2 #[.int .i64 x1, .int .i64 y2] 67); have hv2 := fun i => V.out.cell i; replace U := Aside0.mk (U.out.below hbv); replace hu := fun i => U.out.cell i; clear hbv))
    all_goals go_ret
    all_goals exact ⟨rfl, B.out⟩
  subst c3
  by_cases c4 : x1 = 0
  · have d1 : (x1 == 0) = true := beq_iff_eq.2 c4
    rw [FIN.out true (by rw [decide_eq_true c4]; simp)]
    clear c4 FIN
    go_enter Try.func59, Try.ntmps59
    go_wp2_with (first | (go_at_call 56; (with_reducible refine (KA.out _ _ _ HA.out HC.out).mono ?_); rintro e W1 ⟨rfl, hb⟩; replace B := Aside0.mk (below_then B.out B.out.size hb); replace HA := Aside0.mk (HA.out.below hb); replace HC := Aside0.mk (HC.out.below hb); replace X := Aside0.mk (X.out.below hb); replace hx := fun i => X.out.cell i; replace Y := Aside0.mk (Y.out.below hb); replace hy := fun i => Y.out.cell i; have hxa := fun i => (X.out.alloc (.cells #[.int .i64 x1, .int .i64 x2] 67)).cell i; have hya := fun i => (Y.out.alloc (.cells #[.int .i64 x1, .int .i64 x2] 67)).cell i; clear  hb))
    (try clear hxa hya)
    have hal := below_alloc (Below.refl W1.heap.size W1) (.cells #[.int .i64 x1, .int .i64 x2] 67)
    replace B := Aside0.mk (below_then B.out B.out.size hal)
    replace HA := Aside0.mk (HA.out.below hal)
    replace HC := Aside0.mk (HC.out.below hal)
    replace X := Aside0.mk (X.out.alloc (.cells #[.int .i64 x1, .int .i64 x2] 67)); replace hx := fun i => X.out.cell i
    replace Y := Aside0.mk (Y.out.alloc (.cells #[.int .i64 x1, .int .i64 x2] 67)); replace hy := fun i => Y.out.cell i
    have U := Aside0.mk (Blk.new W1 #[.int .i64 x1, .int .i64 x2] 67); have hu := fun i => U.out.cell i; clear hal
    go_wp2_with (first | (go_at_call 56; (with_reducible refine (KB.out _ _ _ HC.out HA.out).mono ?_); rintro e W2 ⟨rfl, hb⟩; replace B := Aside0.mk (below_then B.out B.out.size hb); replace HA := Aside0.mk (HA.out.below hb); replace HC := Aside0.mk (HC.out.below hb); replace X := Aside0.mk (X.out.below hb); replace hx := fun i => X.out.cell i; replace Y := Aside0.mk (Y.out.below hb); replace hy := fun i => Y.out.cell i; replace U := Aside0.mk (U.out.below hb); replace hu := fun i => U.out.cell i; clear  hb; have hbv := below_alloc (Below.refl W2.heap.size W2) (.cells #[.int .i64 x1, .int .i64 x2] 67); replace B := Aside0.mk (below_then B.out B.out.size hbv); have V := Aside0.mk (Blk.new W2 #[.int .i64 x1, .int .i64 x2] 67); have hv2 := fun i => V.out.cell i; replace U := Aside0.mk (U.out.below hbv); replace hu := fun i => U.out.cell i; clear hbv))
    all_goals go_ret
    all_goals exact ⟨rfl, B.out⟩
  · have d1 : (x1 == 0) = false := beq_eq_false_iff_ne.2 c4
    rw [FIN.out false (by rw [decide_eq_false c4]; simp)]
    clear c4 FIN
    go_enter Try.func59, Try.ntmps59
    go_wp2_with (first | (go_at_call 56; (with_reducible refine (KA.out _ _ _ HA.out HC.out).mono ?_); rintro e W1 ⟨rfl, hb⟩; replace B := Aside0.mk (below_then B.out B.out.size hb); replace HA := Aside0.mk (HA.out.below hb); replace HC := Aside0.mk (HC.out.below hb); replace X := Aside0.mk (X.out.below hb); replace hx := fun i => X.out.cell i; replace Y := Aside0.mk (Y.out.below hb); replace hy := fun i => Y.out.cell i; have hxa := fun i => (X.out.alloc (.cells #[.int .i64 x1, .int .i64 x2] 67)).cell i; have hya := fun i => (Y.out.alloc (.cells #[.int .i64 x1, .int .i64 x2] 67)).cell i; clear  hb))
    (try clear hxa hya)
    have hal := below_alloc (Below.refl W1.heap.size W1) (.cells #[.int .i64 x1, .int .i64 x2] 67)
    replace B := Aside0.mk (below_then B.out B.out.size hal)
    replace HA := Aside0.mk (HA.out.below hal)
    replace HC := Aside0.mk (HC.out.below hal)
    replace X := Aside0.mk (X.out.alloc (.cells #[.int .i64 x1, .int .i64 x2] 67)); replace hx := fun i => X.out.cell i
    replace Y := Aside0.mk (Y.out.alloc (.cells #[.int .i64 x1, .int .i64 x2] 67)); replace hy := fun i => Y.out.cell i
    have U := Aside0.mk (Blk.new W1 #[.int .i64 x1, .int .i64 x2] 67); have hu := fun i => U.out.cell i; clear hal
    go_wp2_with (first | (go_at_call 56; (with_reducible refine (KB.out _ _ _ HC.out HA.out).mono ?_); rintro e W2 ⟨rfl, hb⟩; replace B := Aside0.mk (below_then B.out B.out.size hb); replace HA := Aside0.mk (HA.out.below hb); replace HC := Aside0.mk (HC.out.below hb); replace X := Aside0.mk (X.out.below hb); replace hx := fun i => X.out.cell i; replace Y := Aside0.mk (Y.out.below hb); replace hy := fun i => Y.out.cell i; replace U := Aside0.mk (U.out.below hb); replace hu := fun i => U.out.cell i; clear  hb; have hbv := below_alloc (Below.refl W2.heap.size W2) (.cells #[.int .i64 x1, .int .i64 x2] 67); replace B := Aside0.mk (below_then B.out B.out.size hbv); have V := Aside0.mk (Blk.new W2 #[.int .i64 x1, .int .i64 x2] 67); have hv2 := fun i => V.out.cell i; replace U := Aside0.mk (U.out.below hbv); replace hu := fun i => U.out.cell i; clear hbv))
    all_goals go_ret
    all_goals exact ⟨rfl, B.out⟩
end Go.Proofs.Ytacgeafjilipdaa.P
namespace Go.Proofs.Ytacgeafjilipdaa.P
open Go.RowKit Go.Shelf Go.Proofs.YtacgeafjilipdaaW.PrintWords Go.Proofs.YtacgeafjilipdaaW.PrintLast Go.Proofs.YtacgeafjilipdaaW.PrintMore
set_option linter.unusedVariables false
set_option linter.unusedSimpArgs false
def wfRowU (l : List Pu) : Prop := wfPus l ∧ l.length < 4398046511104
structure RowOKU (l : List Pu) : Prop where
  wf : wfRowU l
  len : l.length ≤ 4096
  cnt : ∀ p ∈ l, rightF p.f1 = true
  ups : Ups (fun p : Pu => p.f0) l
theorem RowOKU.nil : RowOKU [] := ⟨⟨fun s hs => by simp at hs, by simp⟩, by simp, fun s hs => by simp at hs, Ups.nil⟩
theorem zip_upsU : ∀ (ps v : List Int), ps.Pairwise (· < ·) → Ups (fun p : Pu => p.f0) (List.zipWith (fun p x => (⟨p, x⟩ : Pu)) ps v)
  | [], _, _ => by simp [Ups]
  | p :: ps, [], _ => by simp [Ups]
  | p :: ps, x :: v, h => by
    have h1 := List.pairwise_cons.1 h
    refine List.pairwise_cons.2 ⟨fun y hy => ?_, zip_upsU ps v h1.2⟩
    have : y.f0 ∈ ps := by
      obtain ⟨i, hi, rfl⟩ := List.mem_iff_getElem.1 hy
      simp only [List.getElem_zipWith]; exact List.getElem_mem _
    exact h1.1 _ this
theorem sideF_row {l : List Sp} {c : List Int} (hc : u64s c) : RowOKU (sideF l c).1 := by
  unfold sideF
  by_cases c1 : spCheck l = 0
  rotate_left
  · rw [if_neg c1]; exact RowOKU.nil
  rw [if_pos c1]
  by_cases c2 : cntN l = c.length
  rotate_left
  · rw [if_neg c2]; exact RowOKU.nil
  rw [if_pos c2]
  by_cases c3 : c.any (fun v => !rightF v) = true
  · rw [if_pos c3]; exact RowOKU.nil
  rw [if_neg c3]
  have hr := rises_of_right c1
  have hf : ∀ p ∈ List.zipWith (fun p x => (⟨p, x⟩ : Pu)) (plN 0 l) c, (-1048576 ≤ p.f0 ∧ p.f0 ≤ 1048576) ∧ p.f1 ∈ c := by
    intro y hy
    obtain ⟨i, hi, rfl⟩ := List.mem_iff_getElem.1 hy
    simp only [List.getElem_zipWith]
    exact ⟨rises_i64 hr _ (List.getElem_mem _), List.getElem_mem _⟩
  have hl : (List.zipWith (fun p x => (⟨p, x⟩ : Pu)) (plN 0 l) c).length ≤ 4096 := by have := places_len c1; simp; omega
  simp only
  refine ⟨⟨fun p hp => ?_, by omega⟩, hl, fun p hp => ?_, zip_upsU _ _ (rises_ups _ _ hr).1⟩
  · have h1 := hf p hp; have h2 := h1.1; exact ⟨⟨by omega, by omega⟩, hc _ h1.2⟩
  · have h1 := hf p hp
    cases hq : rightF p.f1 with
    | true => rfl
    | false => exact absurd (List.any_eq_true.2 ⟨_, h1.2, by rw [hq]; rfl⟩) c3
theorem openF_row {h : Fh} (hw : wfF h) : RowOKU (openF h).1 ∧ RowOKU (openF h).2.1 := by
  obtain ⟨-, -, -, -, -, -, -, h7, h8, -⟩ := hw
  have a := sideF_row (l := h.f5) h7
  have b := sideF_row (l := h.f6) h8
  unfold openF
  repeat' split
  all_goals first | exact ⟨a, b⟩ | exact ⟨RowOKU.nil, RowOKU.nil⟩
end Go.Proofs.Ytacgeafjilipdaa.P
namespace Go.Proofs.Ytacgeafjilipdaa.P
open Go.RowKit Go.Shelf Go.Proofs.YtacgeafjilipdaaW.PrintWords Go.Proofs.YtacgeafjilipdaaW.PrintLast Go.Proofs.YtacgeafjilipdaaW.PrintMore
set_option linter.unusedVariables false
set_option linter.unusedSimpArgs false
theorem lessF_c (a b : List Pu) (ha : Ups (fun q : Pu => q.f0) a) (hb : Ups (fun q : Pu => q.f0) b) (hm : a.length ≤ 4096) (w : World) (u v : Value) (hu : SI kPu w u a) (hv : SI kPu w v b) : Calls Try.prog 177 #[u, v] w fun e w' => e = .returned (.tuple #[.int .i64 (lessF a b).1, .bool (lessF a b).2]) ∧ Below w.heap.size w w' := by
  obtain ⟨A, c, rfl, hc, hr⟩ := hu
  obtain ⟨B, d, rfl, hd, hs⟩ := hv
  exact reset_less_uint64.calls (a.length * 5 + b.length + 2) A c a (fun k => k < w.heap.size) B d b (lessF a b).1 (lessF a b).2 w hr hc ⟨_, _, rfl, hd, Kd.C_F (show Kd.Heap k123 from Kd.heap_iso _ (Kd.heap_pair (Kd.heap_int .i64) (Kd.heap_int .u64))) hs⟩ (lessF_eq a b ha hb (by omega) _ (by omega))
set_option maxHeartbeats 4000000 in
set_option maxRecDepth 100000 in
theorem verdictF_c (why : Int) (a0 a1 b0 b1 : List Pu) (l0 : ∀ w u v, SI kPu w u a0 → SI kPu w v b0 → Calls Try.prog 177 #[u, v] w fun e w' => e = .returned (.tuple #[.int .i64 (lessF a0 b0).1, .bool (lessF a0 b0).2]) ∧ Below w.heap.size w w')
    (l1 : ∀ w u v, SI kPu w u a1 → SI kPu w v b1 → Calls Try.prog 177 #[u, v] w fun e w' => e = .returned (.tuple #[.int .i64 (lessF a1 b1).1, .bool (lessF a1 b1).2]) ∧ Below w.heap.size w w')
    (w : World) (u0 u1 v0 v1 : Value) (hu0 : SI kPu w u0 a0) (hu1 : SI kPu w u1 a1) (hv0 : SI kPu w v0 b0) (hv1 : SI kPu w v1 b1) : Calls Try.prog 143 #[.int .i64 why, .agg #[u0, u1], .agg #[v0, v1]] w fun e w' =>
    e = .returned (.agg #[.int .i64 (verdR why (lessF a0 b0) (lessF a1 b1)).1, .int .i64 (verdR why (lessF a0 b0) (lessF a1 b1)).2]) ∧ Below w.heap.size w w' := by
  have hua := Try.underlying168
  have huv := Try.underlying67
  generalize lessF a0 b0 = r0 at *
  generalize lessF a1 b1 = r1 at *
  obtain ⟨p, ok⟩ := r0
  obtain ⟨q, ok1⟩ := r1
  simp only at l0 l1
  have L0 := Aside0.mk l0
  have L1 := Aside0.mk l1
  clear l0 l1
  have hu0' := hu0; have hu1' := hu1; have hv0' := hv0; have hv1' := hv1
  obtain ⟨A0, c0, e0, -⟩ := hu0'; subst e0
  obtain ⟨A1, c1, e1, -⟩ := hu1'; subst e1
  obtain ⟨D0, d0, e2, -⟩ := hv0'; subst e2
  obtain ⟨D1, d1, e3, -⟩ := hv1'; subst e3
  have B := Aside0.mk (below_alloc (below_alloc (below_alloc (Below.refl w.heap.size w) (.cells #[.slice A0 a0.length c0, .slice A1 a1.length c1] 168)) (.cells #[.slice D0 b0.length d0, .slice D1 b1.length d1] 168)) (.cells #[.int .i64 0, .int .i64 0] 67))
  have X := Aside0.mk (((Blk.new w #[.slice A0 a0.length c0, .slice A1 a1.length c1] 168).alloc (.cells #[.slice D0 b0.length d0, .slice D1 b1.length d1] 168)).alloc (.cells #[.int .i64 0, .int .i64 0] 67))
  have Y := Aside0.mk ((Blk.at1 (w := w) (.cells #[.slice A0 a0.length c0, .slice A1 a1.length c1] 168) #[.slice D0 b0.length d0, .slice D1 b1.length d1] 168).alloc (.cells #[.int .i64 0, .int .i64 0] 67))
  have Z := Aside0.mk (show Blk (((w.alloc (.cells #[.slice A0 a0.length c0, .slice A1 a1.length c1] 168)).alloc (.cells #[.slice D0 b0.length d0, .slice D1 b1.length d1] 168)).alloc (.cells #[.int .i64 0, .int .i64 0] 67)) (w.heap.size + 1 + 1) #[.int .i64 0, .int .i64 0] 67 by have := Blk.new ((w.alloc (.cells #[.slice A0 a0.length c0, .slice A1 a1.length c1] 168)).alloc (.cells #[.slice D0 b0.length d0, .slice D1 b1.length d1] 168)) #[.int .i64 0, .int .i64 0] 67; simpa using this)
  have hx := fun i => X.out.cell i
  have hy := fun i => Y.out.cell i
  have hz := fun i => Z.out.cell i
  have zz := fun i => blk_frozen Z.out i
  have SA0 := Aside0.mk (hu0.below B.out)
  have SA1 := Aside0.mk (hu1.below B.out)
  have SB0 := Aside0.mk (hv0.below B.out)
  have SB1 := Aside0.mk (hv1.below B.out)
  clear hu0 hu1 hv0 hv1
  unfold verdR
  by_cases cw : why = 0
  rotate_left
  · rw [if_pos cw]
    have cw1 : (why != 0) = true := bne_iff_ne.2 cw
    clear cw
    go_enter Try.func143, Try.ntmps143
    go_wp2
    refine bodyPost_ret (results_cell_row rfl _ _ (w.heap.size + 1 + 1) 67 #[.int .i64 why, .int .i64 0] (0, 0) _ rfl (show Blk _ _ _ _ by have := Blk.new ((w.alloc (.cells #[.slice A0 a0.length c0, .slice A1 a1.length c1] 168)).alloc (.cells #[.slice D0 b0.length d0, .slice D1 b1.length d1] 168)) #[.int .i64 why, .int .i64 0] 67; simpa using this) Try.underlying67 rfl (by kernel_rfl)) rfl ?_
    exact ⟨rfl, below_alloc (below_alloc (below_alloc (Below.refl _ _) _) _) _⟩
  rw [if_neg (by simp [cw])]
  have cw1 : (why != 0) = false := by rw [cw]; rfl
  subst cw
  cases ok with
  | true =>
    simp only [if_true]
    go_enter Try.func143, Try.ntmps143
    go_wp2_with (first | (go_at_call 177; (with_reducible refine (L0.out _ _ _ SA0.out SB0.out).mono ?_); rintro e W1 ⟨rfl, hb⟩; replace B := Aside0.mk (below_then B.out B.out.size hb); replace SA0 := Aside0.mk (SA0.out.below hb); replace SA1 := Aside0.mk (SA1.out.below hb); replace SB0 := Aside0.mk (SB0.out.below hb); replace SB1 := Aside0.mk (SB1.out.below hb); replace X := Aside0.mk (X.out.below hb); replace hx := fun i => X.out.cell i; replace Y := Aside0.mk (Y.out.below hb); replace hy := fun i => Y.out.cell i; replace Z := Aside0.mk (Z.out.below hb); replace hz := fun i => Z.out.cell i; replace zz := fun i => blk_frozen Z.out i; clear  hb))
    refine bodyPost_ret (results_cell_row rfl _ _ (w.heap.size + 1 + 1) 67 #[_, _] (0, 0) _ rfl (blk_put (blk_put Z.out 0 _ rfl) 1 _ rfl) Try.underlying67 rfl (by kernel_rfl)) rfl ?_
    exact ⟨rfl, belowS B.out.size B.out (by omega)⟩
  | false =>
    cases ok1 with
    | true =>
      simp only [if_true, Bool.false_eq_true, if_false]
      go_enter Try.func143, Try.ntmps143
      go_wp2_with (first | (go_at_call 177; (with_reducible refine (L0.out _ _ _ SA0.out SB0.out).mono ?_); rintro e W1 ⟨rfl, hb⟩; replace B := Aside0.mk (below_then B.out B.out.size hb); replace SA0 := Aside0.mk (SA0.out.below hb); replace SA1 := Aside0.mk (SA1.out.below hb); replace SB0 := Aside0.mk (SB0.out.below hb); replace SB1 := Aside0.mk (SB1.out.below hb); replace X := Aside0.mk (X.out.below hb); replace hx := fun i => X.out.cell i; replace Y := Aside0.mk (Y.out.below hb); replace hy := fun i => Y.out.cell i; replace Z := Aside0.mk (Z.out.below hb); replace hz := fun i => Z.out.cell i; replace zz := fun i => blk_frozen Z.out i; clear  hb) | (go_at_call 177; (with_reducible refine (L1.out _ _ _ SA1.out SB1.out).mono ?_); rintro e W2 ⟨rfl, hb⟩; replace B := Aside0.mk (below_then B.out B.out.size hb); replace SA0 := Aside0.mk (SA0.out.below hb); replace SA1 := Aside0.mk (SA1.out.below hb); replace SB0 := Aside0.mk (SB0.out.below hb); replace SB1 := Aside0.mk (SB1.out.below hb); replace X := Aside0.mk (X.out.below hb); replace hx := fun i => X.out.cell i; replace Y := Aside0.mk (Y.out.below hb); replace hy := fun i => Y.out.cell i; replace Z := Aside0.mk (Z.out.below hb); replace hz := fun i => Z.out.cell i; replace zz := fun i => blk_frozen Z.out i; clear  hb))
      refine bodyPost_ret (results_cell_row rfl _ _ (w.heap.size + 1 + 1) 67 #[_, _] (0, 0) _ rfl (blk_put (blk_put Z.out 0 _ rfl) 1 _ rfl) Try.underlying67 rfl (by kernel_rfl)) rfl ?_
      exact ⟨rfl, belowS B.out.size B.out (by omega)⟩
    | false =>
      simp only [Bool.false_eq_true, if_false]
      go_enter Try.func143, Try.ntmps143
      go_wp2_with (first | (go_at_call 177; (with_reducible refine (L0.out _ _ _ SA0.out SB0.out).mono ?_); rintro e W1 ⟨rfl, hb⟩; replace B := Aside0.mk (below_then B.out B.out.size hb); replace SA0 := Aside0.mk (SA0.out.below hb); replace SA1 := Aside0.mk (SA1.out.below hb); replace SB0 := Aside0.mk (SB0.out.below hb); replace SB1 := Aside0.mk (SB1.out.below hb); replace X := Aside0.mk (X.out.below hb); replace hx := fun i => X.out.cell i; replace Y := Aside0.mk (Y.out.below hb); replace hy := fun i => Y.out.cell i; replace Z := Aside0.mk (Z.out.below hb); replace hz := fun i => Z.out.cell i; replace zz := fun i => blk_frozen Z.out i; clear  hb) | (go_at_call 177; (with_reducible refine (L1.out _ _ _ SA1.out SB1.out).mono ?_); rintro e W2 ⟨rfl, hb⟩; replace B := Aside0.mk (below_then B.out B.out.size hb); replace SA0 := Aside0.mk (SA0.out.below hb); replace SA1 := Aside0.mk (SA1.out.below hb); replace SB0 := Aside0.mk (SB0.out.below hb); replace SB1 := Aside0.mk (SB1.out.below hb); replace X := Aside0.mk (X.out.below hb); replace hx := fun i => X.out.cell i; replace Y := Aside0.mk (Y.out.below hb); replace hy := fun i => Y.out.cell i; replace Z := Aside0.mk (Z.out.below hb); replace hz := fun i => Z.out.cell i; replace zz := fun i => blk_frozen Z.out i; clear  hb))
      refine bodyPost_ret (results_cell_row rfl _ _ (w.heap.size + 1 + 1) 67 #[_, _] (0, 0) _ rfl (blk_put (blk_put Z.out 0 _ rfl) 1 _ rfl) Try.underlying67 rfl (by kernel_rfl)) rfl ?_
      exact ⟨rfl, belowS B.out.size B.out (by omega)⟩
theorem headsF_c (a b : Fh) (w : World) : Calls Try.prog 137 #[.agg #[.int .i64 a.f0, .int .u64 a.f1, .int .u64 a.f3, .int .u64 a.f2], .agg #[.int .i64 b.f0, .int .u64 b.f1, .int .u64 b.f3, .int .u64 b.f2]] w fun e w' => e = .returned (.int .i64 (headsF a b)) ∧ Below w.heap.size w w' :=
  reset_heads.calls _ _ _ _ _ _ _ _ _ w (heads_eq _ _ _ _ _ _ _ _)
set_option maxHeartbeats 16000000 in
set_option maxRecDepth 100000 in
theorem resetF_c (a b : Fh) (hwa : wfF a) (hwb : wfF b) (w : World) (u v : Value) (hu : GI w u a) (hv : GI w v b) : Calls Try.prog 62 #[u, v] w fun e w' =>
    e = .returned (.tuple #[.agg #[.int .i64 (floatsR a b).1.1, .int .i64 (floatsR a b).1.2], .int .i64 (floatsR a b).2]) ∧ Below w.heap.size w w' := by
  have hud := Try.underlying79
  have hua := Try.underlying168
  have huv := Try.underlying67
  have ka := sidesF_c a hwa
  have kb := sidesF_c b hwb
  have hd := headsF_c a b
  have ra := openF_row hwa
  have rb := openF_row hwb
  have vd := verdictF_c (headsF a b) (openF a).1 (openF a).2.1 (openF b).1 (openF b).2.1 (lessF_c _ _ ra.1.ups rb.1.ups ra.1.len) (lessF_c _ _ ra.2.ups rb.2.ups ra.2.len)
  unfold floatsR floatsV
  generalize verdR (headsF a b) (lessF (openF a).1 (openF b).1) (lessF (openF a).2.1 (openF b).2.1) = r at *
  obtain ⟨r1, r2⟩ := r
  generalize headsF a b = hd0 at *
  generalize (openF a).1 = x0 at *
  generalize (openF a).2.1 = x1 at *
  generalize (openF b).1 = y0 at *
  generalize (openF b).2.1 = y1 at *
  generalize checkF a = ea at *
  generalize checkF b = eb at *
  have KA := Aside0.mk ka
  have KB := Aside0.mk kb
  have HD := Aside0.mk hd
  have VD := Aside0.mk vd
  clear ka kb hd vd ra rb hwa hwb
  obtain ⟨A5a, c5a, A6a, c6a, A7a, c7a, A8a, c8a, e, -⟩ := hu.open_
  subst e
  obtain ⟨A5b, c5b, A6b, c6b, A7b, c7b, A8b, c8b, e, -⟩ := hv.open_
  subst e
  have B := Aside0.mk (below_alloc (below_alloc (below_alloc (Below.refl w.heap.size w) (.cells #[.int .i64 a.f0, .int .u64 a.f1, .int .u64 a.f2, .int .u64 a.f3, .int .u64 a.f4, .slice A5a a.f5.length c5a, .slice A6a a.f6.length c6a, .slice A7a a.f7.length c7a, .slice A8a a.f8.length c8a] 79)) (.cells #[.int .i64 b.f0, .int .u64 b.f1, .int .u64 b.f2, .int .u64 b.f3, .int .u64 b.f4, .slice A5b b.f5.length c5b, .slice A6b b.f6.length c6b, .slice A7b b.f7.length c7b, .slice A8b b.f8.length c8b] 79)) (.cells #[.int .i64 0, .int .i64 0] 67))
  have X := Aside0.mk (((Blk.new w #[.int .i64 a.f0, .int .u64 a.f1, .int .u64 a.f2, .int .u64 a.f3, .int .u64 a.f4, .slice A5a a.f5.length c5a, .slice A6a a.f6.length c6a, .slice A7a a.f7.length c7a, .slice A8a a.f8.length c8a] 79).alloc (.cells #[.int .i64 b.f0, .int .u64 b.f1, .int .u64 b.f2, .int .u64 b.f3, .int .u64 b.f4, .slice A5b b.f5.length c5b, .slice A6b b.f6.length c6b, .slice A7b b.f7.length c7b, .slice A8b b.f8.length c8b] 79)).alloc (.cells #[.int .i64 0, .int .i64 0] 67))
  have Y := Aside0.mk ((Blk.at1 (w := w) (.cells #[.int .i64 a.f0, .int .u64 a.f1, .int .u64 a.f2, .int .u64 a.f3, .int .u64 a.f4, .slice A5a a.f5.length c5a, .slice A6a a.f6.length c6a, .slice A7a a.f7.length c7a, .slice A8a a.f8.length c8a] 79) #[.int .i64 b.f0, .int .u64 b.f1, .int .u64 b.f2, .int .u64 b.f3, .int .u64 b.f4, .slice A5b b.f5.length c5b, .slice A6b b.f6.length c6b, .slice A7b b.f7.length c7b, .slice A8b b.f8.length c8b] 79).alloc (.cells #[.int .i64 0, .int .i64 0] 67))
  have Z := Aside0.mk (show Blk (((w.alloc (.cells #[.int .i64 a.f0, .int .u64 a.f1, .int .u64 a.f2, .int .u64 a.f3, .int .u64 a.f4, .slice A5a a.f5.length c5a, .slice A6a a.f6.length c6a, .slice A7a a.f7.length c7a, .slice A8a a.f8.length c8a] 79)).alloc (.cells #[.int .i64 b.f0, .int .u64 b.f1, .int .u64 b.f2, .int .u64 b.f3, .int .u64 b.f4, .slice A5b b.f5.length c5b, .slice A6b b.f6.length c6b, .slice A7b b.f7.length c7b, .slice A8b b.f8.length c8b] 79)).alloc (.cells #[.int .i64 0, .int .i64 0] 67)) (w.heap.size + 1 + 1) #[.int .i64 0, .int .i64 0] 67 by have := Blk.new ((w.alloc (.cells #[.int .i64 a.f0, .int .u64 a.f1, .int .u64 a.f2, .int .u64 a.f3, .int .u64 a.f4, .slice A5a a.f5.length c5a, .slice A6a a.f6.length c6a, .slice A7a a.f7.length c7a, .slice A8a a.f8.length c8a] 79)).alloc (.cells #[.int .i64 b.f0, .int .u64 b.f1, .int .u64 b.f2, .int .u64 b.f3, .int .u64 b.f4, .slice A5b b.f5.length c5b, .slice A6b b.f6.length c6b, .slice A7b b.f7.length c7b, .slice A8b b.f8.length c8b] 79)) #[.int .i64 0, .int .i64 0] 67; simpa using this)
  have hx := fun i => X.out.cell i
  have hy := fun i => Y.out.cell i
  have hz := fun i => Z.out.cell i
  have zz := fun i => blk_frozen Z.out i
  have HA := Aside0.mk (hu.below B.out)
  have HC := Aside0.mk (hv.below B.out)
  clear hu hv
  by_cases c1 : ea = 0
  rotate_left
  · rw [if_pos c1]
    have d1 : (ea != 0) = true := bne_iff_ne.2 c1
    clear c1
    go_enter Try.func62, Try.ntmps62
    go_wp2_with (first | (go_at_call 142; (with_reducible refine (KA.out _ _ HA.out).mono ?_); rintro e W1 ⟨v0, v1, rfl, h0, h1, hb⟩; replace B := Aside0.mk (below_then B.out B.out.size hb); replace HA := Aside0.mk (HA.out.below hb); replace HC := Aside0.mk (HC.out.below hb); replace X := Aside0.mk (X.out.below hb); replace hx := fun i => X.out.cell i; replace Y := Aside0.mk (Y.out.below hb); replace hy := fun i => Y.out.cell i; replace Z := Aside0.mk (Z.out.below hb); replace hz := fun i => Z.out.cell i; replace zz := fun i => blk_frozen Z.out i; have SA0 := Aside0.mk h0; have SA1 := Aside0.mk h1; have e0' := SA0.out; have e1' := SA1.out; obtain ⟨P0, q0, e0⟩ := e0'.slc; subst e0; obtain ⟨P1, q1, e1⟩ := e1'.slc; subst e1; have hsz1 := blk_lt Z.out; have hxa := fun i => (X.out.alloc (.cells #[.slice P0 x0.length q0, .slice P1 x1.length q1] 168)).cell i; have hya := fun i => (Y.out.alloc (.cells #[.slice P0 x0.length q0, .slice P1 x1.length q1] 168)).cell i; have hza := fun i => (Z.out.alloc (.cells #[.slice P0 x0.length q0, .slice P1 x1.length q1] 168)).cell i; clear h0 h1 hb; have zza := fun i => blk_frozen (Z.out.alloc (.cells #[.slice P0 x0.length q0, .slice P1 x1.length q1] 168)) i))
    refine bodyPost_ret (results_ct rfl _ _ (w.heap.size + 1 + 1) 67 #[_, _] (0, 0) _ rfl (Blk.alloc (show Blk _ _ _ _ from blk_put (blk_put Z.out 0 _ rfl) 1 _ rfl) _) Try.underlying67 rfl (by kernel_rfl)) rfl ?_
    exact ⟨rfl, below_alloc (belowS B.out.size B.out (by omega)) _⟩
  subst c1
  rw [if_neg (by simp)]
  by_cases c2 : eb = 0
  rotate_left
  · rw [if_pos c2]
    have d2 : (eb != 0) = true := bne_iff_ne.2 c2
    clear c2
    go_enter Try.func62, Try.ntmps62
    go_wp2_with (first | (go_at_call 142; (with_reducible refine (KA.out _ _ HA.out).mono ?_); rintro e W1 ⟨v0, v1, rfl, h0, h1, hb⟩; replace B := Aside0.mk (below_then B.out B.out.size hb); replace HA := Aside0.mk (HA.out.below hb); replace HC := Aside0.mk (HC.out.below hb); replace X := Aside0.mk (X.out.below hb); replace hx := fun i => X.out.cell i; replace Y := Aside0.mk (Y.out.below hb); replace hy := fun i => Y.out.cell i; replace Z := Aside0.mk (Z.out.below hb); replace hz := fun i => Z.out.cell i; replace zz := fun i => blk_frozen Z.out i; have SA0 := Aside0.mk h0; have SA1 := Aside0.mk h1; have e0' := SA0.out; have e1' := SA1.out; obtain ⟨P0, q0, e0⟩ := e0'.slc; subst e0; obtain ⟨P1, q1, e1⟩ := e1'.slc; subst e1; have hsz1 := blk_lt Z.out; have hxa := fun i => (X.out.alloc (.cells #[.slice P0 x0.length q0, .slice P1 x1.length q1] 168)).cell i; have hya := fun i => (Y.out.alloc (.cells #[.slice P0 x0.length q0, .slice P1 x1.length q1] 168)).cell i; have hza := fun i => (Z.out.alloc (.cells #[.slice P0 x0.length q0, .slice P1 x1.length q1] 168)).cell i; clear h0 h1 hb))
    (try clear hxa hya hza)
    have hal := below_alloc (Below.refl W1.heap.size W1) (.cells #[.slice P0 x0.length q0, .slice P1 x1.length q1] 168)
    replace B := Aside0.mk (below_then B.out B.out.size hal)
    replace HA := Aside0.mk (HA.out.below hal)
    replace HC := Aside0.mk (HC.out.below hal)
    replace SA0 := Aside0.mk (SA0.out.below hal)
    replace SA1 := Aside0.mk (SA1.out.below hal)
    replace X := Aside0.mk (X.out.alloc (.cells #[.slice P0 x0.length q0, .slice P1 x1.length q1] 168)); replace hx := fun i => X.out.cell i
    replace Y := Aside0.mk (Y.out.alloc (.cells #[.slice P0 x0.length q0, .slice P1 x1.length q1] 168)); replace hy := fun i => Y.out.cell i
    replace Z := Aside0.mk (Z.out.alloc (.cells #[.slice P0 x0.length q0, .slice P1 x1.length q1] 168)); replace hz := fun i => Z.out.cell i
    have U := Aside0.mk (Blk.new W1 #[.slice P0 x0.length q0, .slice P1 x1.length q1] 168); have hu := fun i => U.out.cell i; clear hal
    go_wp2_with (first | (go_at_call 142; (with_reducible refine (KB.out _ _ HC.out).mono ?_); rintro e W2 ⟨v2, v3, rfl, h0, h1, hb⟩; replace B := Aside0.mk (below_then B.out B.out.size hb); replace HA := Aside0.mk (HA.out.below hb); replace HC := Aside0.mk (HC.out.below hb); replace SA0 := Aside0.mk (SA0.out.below hb); replace SA1 := Aside0.mk (SA1.out.below hb); replace X := Aside0.mk (X.out.below hb); replace hx := fun i => X.out.cell i; replace Y := Aside0.mk (Y.out.below hb); replace hy := fun i => Y.out.cell i; replace Z := Aside0.mk (Z.out.below hb); replace hz := fun i => Z.out.cell i; replace zz := fun i => blk_frozen Z.out i; replace U := Aside0.mk (U.out.below hb); replace hu := fun i => U.out.cell i; have SB0 := Aside0.mk h0; have SB1 := Aside0.mk h1; have e0' := SB0.out; have e1' := SB1.out; obtain ⟨P2, q2, e0⟩ := e0'.slc; subst e0; obtain ⟨P3, q3, e1⟩ := e1'.slc; subst e1; have hsz2 := blk_lt Z.out; have hxa := fun i => (X.out.alloc (.cells #[.slice P2 y0.length q2, .slice P3 y1.length q3] 168)).cell i; have hya := fun i => (Y.out.alloc (.cells #[.slice P2 y0.length q2, .slice P3 y1.length q3] 168)).cell i; have hza := fun i => (Z.out.alloc (.cells #[.slice P2 y0.length q2, .slice P3 y1.length q3] 168)).cell i; have hua := fun i => (U.out.alloc (.cells #[.slice P2 y0.length q2, .slice P3 y1.length q3] 168)).cell i; clear h0 h1 hb; have zza := fun i => blk_frozen (Z.out.alloc (.cells #[.slice P2 y0.length q2, .slice P3 y1.length q3] 168)) i))
    refine bodyPost_ret (results_ct rfl _ _ (w.heap.size + 1 + 1) 67 #[_, _] (0, 0) _ rfl (Blk.alloc (show Blk _ _ _ _ from blk_put (blk_put Z.out 0 _ rfl) 1 _ rfl) _) Try.underlying67 rfl (by kernel_rfl)) rfl ?_
    exact ⟨rfl, below_alloc (belowS B.out.size B.out (by omega)) _⟩
  subst c2
  rw [if_neg (by simp)]
  go_enter Try.func62, Try.ntmps62
  go_wp2_with (first | (go_at_call 142; (with_reducible refine (KA.out _ _ HA.out).mono ?_); rintro e W1 ⟨v0, v1, rfl, h0, h1, hb⟩; replace B := Aside0.mk (below_then B.out B.out.size hb); replace HA := Aside0.mk (HA.out.below hb); replace HC := Aside0.mk (HC.out.below hb); replace X := Aside0.mk (X.out.below hb); replace hx := fun i => X.out.cell i; replace Y := Aside0.mk (Y.out.below hb); replace hy := fun i => Y.out.cell i; replace Z := Aside0.mk (Z.out.below hb); replace hz := fun i => Z.out.cell i; replace zz := fun i => blk_frozen Z.out i; have SA0 := Aside0.mk h0; have SA1 := Aside0.mk h1; have e0' := SA0.out; have e1' := SA1.out; obtain ⟨P0, q0, e0⟩ := e0'.slc; subst e0; obtain ⟨P1, q1, e1⟩ := e1'.slc; subst e1; have hsz1 := blk_lt Z.out; have hxa := fun i => (X.out.alloc (.cells #[.slice P0 x0.length q0, .slice P1 x1.length q1] 168)).cell i; have hya := fun i => (Y.out.alloc (.cells #[.slice P0 x0.length q0, .slice P1 x1.length q1] 168)).cell i; have hza := fun i => (Z.out.alloc (.cells #[.slice P0 x0.length q0, .slice P1 x1.length q1] 168)).cell i; clear h0 h1 hb))
  (try clear hxa hya hza)
  have hal := below_alloc (Below.refl W1.heap.size W1) (.cells #[.slice P0 x0.length q0, .slice P1 x1.length q1] 168)
  replace B := Aside0.mk (below_then B.out B.out.size hal)
  replace HA := Aside0.mk (HA.out.below hal)
  replace HC := Aside0.mk (HC.out.below hal)
  replace SA0 := Aside0.mk (SA0.out.below hal)
  replace SA1 := Aside0.mk (SA1.out.below hal)
  replace X := Aside0.mk (X.out.alloc (.cells #[.slice P0 x0.length q0, .slice P1 x1.length q1] 168)); replace hx := fun i => X.out.cell i
  replace Y := Aside0.mk (Y.out.alloc (.cells #[.slice P0 x0.length q0, .slice P1 x1.length q1] 168)); replace hy := fun i => Y.out.cell i
  replace Z := Aside0.mk (Z.out.alloc (.cells #[.slice P0 x0.length q0, .slice P1 x1.length q1] 168)); replace hz := fun i => Z.out.cell i
  have U := Aside0.mk (Blk.new W1 #[.slice P0 x0.length q0, .slice P1 x1.length q1] 168); have hu := fun i => U.out.cell i; clear hal
  go_wp2_with (first | (go_at_call 142; (with_reducible refine (KB.out _ _ HC.out).mono ?_); rintro e W2 ⟨v2, v3, rfl, h0, h1, hb⟩; replace B := Aside0.mk (below_then B.out B.out.size hb); replace HA := Aside0.mk (HA.out.below hb); replace HC := Aside0.mk (HC.out.below hb); replace SA0 := Aside0.mk (SA0.out.below hb); replace SA1 := Aside0.mk (SA1.out.below hb); replace X := Aside0.mk (X.out.below hb); replace hx := fun i => X.out.cell i; replace Y := Aside0.mk (Y.out.below hb); replace hy := fun i => Y.out.cell i; replace Z := Aside0.mk (Z.out.below hb); replace hz := fun i => Z.out.cell i; replace zz := fun i => blk_frozen Z.out i; replace U := Aside0.mk (U.out.below hb); replace hu := fun i => U.out.cell i; have SB0 := Aside0.mk h0; have SB1 := Aside0.mk h1; have e0' := SB0.out; have e1' := SB1.out; obtain ⟨P2, q2, e0⟩ := e0'.slc; subst e0; obtain ⟨P3, q3, e1⟩ := e1'.slc; subst e1; have hsz2 := blk_lt Z.out; have hxa := fun i => (X.out.alloc (.cells #[.slice P2 y0.length q2, .slice P3 y1.length q3] 168)).cell i; have hya := fun i => (Y.out.alloc (.cells #[.slice P2 y0.length q2, .slice P3 y1.length q3] 168)).cell i; have hza := fun i => (Z.out.alloc (.cells #[.slice P2 y0.length q2, .slice P3 y1.length q3] 168)).cell i; have hua := fun i => (U.out.alloc (.cells #[.slice P2 y0.length q2, .slice P3 y1.length q3] 168)).cell i; clear h0 h1 hb))
  (try clear hxa hya hza hua)
  have hal := below_alloc (Below.refl W2.heap.size W2) (.cells #[.slice P2 y0.length q2, .slice P3 y1.length q3] 168)
  replace B := Aside0.mk (below_then B.out B.out.size hal)
  replace HA := Aside0.mk (HA.out.below hal)
  replace HC := Aside0.mk (HC.out.below hal)
  replace SA0 := Aside0.mk (SA0.out.below hal)
  replace SA1 := Aside0.mk (SA1.out.below hal)
  replace SB0 := Aside0.mk (SB0.out.below hal)
  replace SB1 := Aside0.mk (SB1.out.below hal)
  replace X := Aside0.mk (X.out.alloc (.cells #[.slice P2 y0.length q2, .slice P3 y1.length q3] 168)); replace hx := fun i => X.out.cell i
  replace Y := Aside0.mk (Y.out.alloc (.cells #[.slice P2 y0.length q2, .slice P3 y1.length q3] 168)); replace hy := fun i => Y.out.cell i
  replace Z := Aside0.mk (Z.out.alloc (.cells #[.slice P2 y0.length q2, .slice P3 y1.length q3] 168)); replace hz := fun i => Z.out.cell i
  replace U := Aside0.mk (U.out.alloc (.cells #[.slice P2 y0.length q2, .slice P3 y1.length q3] 168)); replace hu := fun i => U.out.cell i
  have V := Aside0.mk (Blk.new W2 #[.slice P2 y0.length q2, .slice P3 y1.length q3] 168); have hv := fun i => V.out.cell i; clear hal
  replace HA := Aside0.mk (HA.out.below (below_drew (Below.refl _ _)))
  replace HC := Aside0.mk (HC.out.below (below_drew (Below.refl _ _)))
  replace SA0 := Aside0.mk (SA0.out.below (below_drew (Below.refl _ _)))
  replace SA1 := Aside0.mk (SA1.out.below (below_drew (Below.refl _ _)))
  replace SB0 := Aside0.mk (SB0.out.below (below_drew (Below.refl _ _)))
  replace SB1 := Aside0.mk (SB1.out.below (below_drew (Below.refl _ _)))
  replace X := Aside0.mk (X.out.below (below_drew (Below.refl _ _)))
  replace Y := Aside0.mk (Y.out.below (below_drew (Below.refl _ _)))
  replace Z := Aside0.mk (Z.out.below (below_drew (Below.refl _ _)))
  replace U := Aside0.mk (U.out.below (below_drew (Below.refl _ _)))
  replace V := Aside0.mk (V.out.below (below_drew (Below.refl _ _)))
  replace B := Aside0.mk (below_drew B.out)
  go_region_held3 (fun W => (∀ i, W.cell? ⟨w.heap.size, i, none⟩ = (#[.int .i64 a.f0, .int .u64 a.f1, .int .u64 a.f2, .int .u64 a.f3, .int .u64 a.f4, .slice A5a a.f5.length c5a, .slice A6a a.f6.length c6a, .slice A7a a.f7.length c7a, .slice A8a a.f8.length c8a] : Array Value)[i]?) ∧ (∀ i, W.cell? ⟨w.heap.size + 1, i, none⟩ = (#[.int .i64 b.f0, .int .u64 b.f1, .int .u64 b.f2, .int .u64 b.f3, .int .u64 b.f4, .slice A5b b.f5.length c5b, .slice A6b b.f6.length c6b, .slice A7b b.f7.length c7b, .slice A8b b.f8.length c8b] : Array Value)[i]?) ∧ (∀ i, W.cell? ⟨W1.heap.size, i, none⟩ = (#[.slice P0 x0.length q0, .slice P1 x1.length q1] : Array Value)[i]?) ∧ (∀ i, W.cell? ⟨W2.heap.size, i, none⟩ = (#[.slice P2 y0.length q2, .slice P3 y1.length q3] : Array Value)[i]?)) (first | exact ⟨fun i => X.out.cell i, fun i => Y.out.cell i, fun i => U.out.cell i, fun i => V.out.cell i⟩ | exact ⟨fun i => blk_cell (blk_far X.out (by show w.heap.size ≠ w.heap.size + 1 + 1; omega) _) i, fun i => blk_cell (blk_far Y.out (by show w.heap.size + 1 ≠ w.heap.size + 1 + 1; omega) _) i, fun i => blk_cell (blk_far U.out (by show W1.heap.size ≠ w.heap.size + 1 + 1; omega) _) i, fun i => blk_cell (blk_far V.out (by show W2.heap.size ≠ w.heap.size + 1 + 1; omega) _) i⟩ | exact ⟨fun i => blk_cell (blk_far (blk_far X.out (by show w.heap.size ≠ w.heap.size + 1 + 1; omega) _) (by show w.heap.size ≠ w.heap.size + 1 + 1; omega) _) i, fun i => blk_cell (blk_far (blk_far Y.out (by show w.heap.size + 1 ≠ w.heap.size + 1 + 1; omega) _) (by show w.heap.size + 1 ≠ w.heap.size + 1 + 1; omega) _) i, fun i => blk_cell (blk_far (blk_far U.out (by show W1.heap.size ≠ w.heap.size + 1 + 1; omega) _) (by show W1.heap.size ≠ w.heap.size + 1 + 1; omega) _) i, fun i => blk_cell (blk_far (blk_far V.out (by show W2.heap.size ≠ w.heap.size + 1 + 1; omega) _) (by show W2.heap.size ≠ w.heap.size + 1 + 1; omega) _) i⟩) (first | (go_at_call 137; (with_reducible refine (HD.out _).mono ?_); rintro e W3 ⟨rfl, hb⟩; replace B := Aside0.mk (below_then B.out B.out.size hb); replace HA := Aside0.mk (HA.out.below hb); replace HC := Aside0.mk (HC.out.below hb); replace SA0 := Aside0.mk (SA0.out.below hb); replace SA1 := Aside0.mk (SA1.out.below hb); replace SB0 := Aside0.mk (SB0.out.below hb); replace SB1 := Aside0.mk (SB1.out.below hb); replace X := Aside0.mk (X.out.below hb); replace hx := fun i => X.out.cell i; replace Y := Aside0.mk (Y.out.below hb); replace hy := fun i => Y.out.cell i; replace Z := Aside0.mk (Z.out.below hb); replace hz := fun i => Z.out.cell i; replace zz := fun i => blk_frozen Z.out i; replace U := Aside0.mk (U.out.below hb); replace hu := fun i => U.out.cell i; replace V := Aside0.mk (V.out.below hb); replace hv := fun i => V.out.cell i; clear  hb) | (go_at_call 143; (with_reducible refine (VD.out _ _ _ _ _ SA0.out SA1.out SB0.out SB1.out).mono ?_); rintro e W4 ⟨rfl, hb⟩; replace B := Aside0.mk (below_then B.out B.out.size hb); replace HA := Aside0.mk (HA.out.below hb); replace HC := Aside0.mk (HC.out.below hb); replace SA0 := Aside0.mk (SA0.out.below hb); replace SA1 := Aside0.mk (SA1.out.below hb); replace SB0 := Aside0.mk (SB0.out.below hb); replace SB1 := Aside0.mk (SB1.out.below hb); replace X := Aside0.mk (X.out.below hb); replace hx := fun i => X.out.cell i; replace Y := Aside0.mk (Y.out.below hb); replace hy := fun i => Y.out.cell i; replace Z := Aside0.mk (Z.out.below hb); replace hz := fun i => Z.out.cell i; replace zz := fun i => blk_frozen Z.out i; replace U := Aside0.mk (U.out.below hb); replace hu := fun i => U.out.cell i; replace V := Aside0.mk (V.out.below hb); replace hv := fun i => V.out.cell i; clear  hb))
  all_goals go_wp2
  all_goals (refine bodyPost_ret (results_ct rfl _ _ (w.heap.size + 1 + 1) 67 #[_, _] (0, 0) _ rfl (blk_put (blk_put (Z.out) 0 _ rfl) 1 _ rfl) Try.underlying67 rfl (by kernel_rfl)) rfl ?_; exact ⟨rfl, belowS B.out.size B.out (by omega)⟩)
end Go.Proofs.Ytacgeafjilipdaa.P
namespace Go.Proofs.Ytacgeafjilipdaa.P
open Go.RowKit Go.Shelf Go.Proofs.YtacgeafjilipdaaW.PrintWords Go.Proofs.YtacgeafjilipdaaW.PrintLast Go.Proofs.YtacgeafjilipdaaW.PrintMore
set_option linter.unusedVariables false
set_option linter.unusedSimpArgs false
def nameS (a : Int) : ByteArray := if a = 0 then ⟨#[110, 111, 110, 101]⟩ else if a = 1 then ⟨#[115, 99, 104, 101, 109, 97]⟩ else if a = 2 then ⟨#[116, 104, 114, 101, 115, 104, 111, 108, 100]⟩ else if a = 3 then ⟨#[99, 111, 117, 110, 116]⟩ else if a = 4 then ⟨#[122, 101, 114, 111, 32, 99, 111, 117, 110, 116]⟩ else if a = 5 then ⟨#[112, 111, 115, 105, 116, 105, 118, 101]⟩ else if a = 6 then ⟨#[110, 101, 103, 97, 116, 105, 118, 101]⟩ else ⟨#[]⟩
theorem nameS_no {a : Int} (h : ¬ (0 ≤ a ∧ a ≤ 6)) : nameS a = ⟨#[]⟩ := by
  unfold nameS
  rw [if_neg (by omega), if_neg (by omega), if_neg (by omega), if_neg (by omega), if_neg (by omega), if_neg (by omega), if_neg (by omega)]
set_option maxHeartbeats 4000000 in
set_option maxRecDepth 100000 in
theorem name_c (a : Int) (w : World) : Calls Try.prog 66 #[.int .i64 a] w fun e w' => e = .returned (.string (nameS a)) ∧ Below w.heap.size w w' := by
  have hu := Try.underlying174
  by_cases h : 0 ≤ a ∧ a ≤ 6
  · have X := Blk.new w #[.string ⟨#[110, 111, 110, 101]⟩, .string ⟨#[115, 99, 104, 101, 109, 97]⟩, .string ⟨#[116, 104, 114, 101, 115, 104, 111, 108, 100]⟩, .string ⟨#[99, 111, 117, 110, 116]⟩, .string ⟨#[122, 101, 114, 111, 32, 99, 111, 117, 110, 116]⟩, .string ⟨#[112, 111, 115, 105, 116, 105, 118, 101]⟩, .string ⟨#[110, 101, 103, 97, 116, 105, 118, 101]⟩] 174
    have hx := fun i => X.cell i
    obtain h | h | h | h | h | h | h : a = 0 ∨ a = 1 ∨ a = 2 ∨ a = 3 ∨ a = 4 ∨ a = 5 ∨ a = 6 := by omega
    all_goals subst h
    all_goals go_enter Try.func66, Try.ntmps66
    all_goals go_wp2
    all_goals go_ret
    all_goals exact ⟨rfl, below_alloc (Below.refl _ _) _⟩
  · rw [nameS_no h]
    by_cases h1 : a < 0
    · have d1 : decide (a < 0) = true := decide_eq_true h1
      clear h h1
      go_enter Try.func66, Try.ntmps66
      go_wp2
      go_ret
      exact ⟨rfl, below_alloc (Below.refl _ _) _⟩
    · have d1 : decide (a < 0) = false := decide_eq_false h1
      have d2 : decide (7 ≤ a) = true := decide_eq_true (by omega)
      clear h h1
      go_enter Try.func66, Try.ntmps66
      go_wp2
      go_ret
      exact ⟨rfl, below_alloc (Below.refl _ _) _⟩
end Go.Proofs.Ytacgeafjilipdaa.P
namespace Go.Proofs.Ytacgeafjilipdaa.P
open Go.RowKit Go.Shelf Go.Proofs.YtacgeafjilipdaaW.PrintWords Go.Proofs.YtacgeafjilipdaaW.PrintLast Go.Proofs.YtacgeafjilipdaaW.PrintMore
set_option linter.unusedVariables false
set_option linter.unusedSimpArgs false
theorem reps_one_span (w : World) (a b : Int) : Reps (k144.K w) 2 [(⟨a, b⟩ : S144)] [.int .i64 a, .int .i64 b] := by
  refine ⟨rfl, fun j p hj => ?_⟩
  cases j with
  | zero => injection hj with hj; subst hj; exact k144_mk w _
  | succ j => simp at hj
end Go.Proofs.Ytacgeafjilipdaa.P
namespace Go.Proofs.Ytacgeafjilipdaa.P
open Go.RowKit Go.Shelf Go.Proofs.YtacgeafjilipdaaW.PrintWords Go.Proofs.YtacgeafjilipdaaW.PrintLast Go.Proofs.YtacgeafjilipdaaW.PrintMore
set_option linter.unusedVariables false
set_option linter.unusedSimpArgs false
def awA : Hi := ⟨0, 0, 0, 6, 0, [⟨3, 2⟩], [], [5, -4], []⟩
def awB : Hi := ⟨0, 0, 0, 9, 0, [⟨3, 1⟩], [], [9], []⟩
def awF : Fh := ⟨1, 0, 0, 0, 0, [], [], [], []⟩
theorem awA_wf : wfH awA := by unfold wfH; decide
theorem awB_wf : wfH awB := by unfold wfH; decide
theorem awF_wf : wfF awF := by unfold wfF; decide
theorem awE_wf : wfF emptyF := by unfold wfF; decide
theorem aw11_1 : intsR awA awB = ((5, 4), 0) := by kernel_rfl
theorem aw11_2 : intsR awB awA = ((3, 0), 0) := by kernel_rfl
theorem aw11_3 : floatsR awF emptyF = ((1, 0), 0) := by kernel_rfl
theorem aw11_4 : sameR awA awA = true := by kernel_rfl
theorem hp_at {w : World} {k : Nat} (h : w.heap.size = k) (o : Obj) : (w.alloc o).heap[k]? = some o := h ▸ heap_alloc_new w o
theorem hp_old {w : World} {k : Nat} {o' : Obj} (o : Obj) (h : w.heap[k]? = some o') : (w.alloc o).heap[k]? = some o' := by
  have hk : k < w.heap.size := by
    rcases Nat.lt_or_ge k w.heap.size with h1 | h1
    · exact h1
    · rw [Array.getElem?_eq_none h1] at h; cases h
  show (w.heap.push o)[k]? = _
  rw [Array.getElem?_push, if_neg (by omega)]; exact h
theorem aw11_5 : nameS 5 = ⟨#[112, 111, 115, 105, 116, 105, 118, 101]⟩ := rfl
theorem lit6 (w : World) (o1 o2 o3 o4 o5 o6 : Obj) :
    let W := ((((((w.alloc o1).alloc o2).alloc o3).alloc o4).alloc o5).alloc o6)
    W.heap[w.heap.size]? = some o1 ∧ W.heap[w.heap.size + 1]? = some o2 ∧ W.heap[w.heap.size + 1 + 1]? = some o3 ∧ W.heap[w.heap.size + 1 + 1 + 1]? = some o4 ∧ W.heap[w.heap.size + 1 + 1 + 1 + 1]? = some o5 ∧ W.heap[w.heap.size + 1 + 1 + 1 + 1 + 1]? = some o6 ∧ Below w.heap.size w W := by
  exact ⟨(hp_old o6 (hp_old o5 (hp_old o4 (hp_old o3 (hp_old o2 (hp_at (w := w) (by simp) o1)))))), (hp_old o6 (hp_old o5 (hp_old o4 (hp_old o3 (hp_at (w := (w.alloc o1)) (by simp) o2))))), (hp_old o6 (hp_old o5 (hp_old o4 (hp_at (w := ((w.alloc o1).alloc o2)) (by simp) o3)))), (hp_old o6 (hp_old o5 (hp_at (w := (((w.alloc o1).alloc o2).alloc o3)) (by simp) o4))), (hp_old o6 (hp_at (w := ((((w.alloc o1).alloc o2).alloc o3).alloc o4)) (by simp) o5)), (hp_at (w := (((((w.alloc o1).alloc o2).alloc o3).alloc o4).alloc o5)) (by simp) o6), below_alloc (below_alloc (below_alloc (below_alloc (below_alloc (below_alloc (Below.refl _ _) _) _) _) _) _) _⟩
set_option maxHeartbeats 16000000 in
set_option maxRecDepth 100000 in
theorem awake11_c (w : World) : Calls Try.prog 55 #[] w fun e w' => e = .returned (.bool true) ∧ Below w.heap.size w w' := by
  have hu1 := Try.underlying144
  have hu2 := Try.underlying64
  have hu3 := Try.underlying67
  have hu4 := Try.underlying79
  have k1 := resetI_c awA awB awA_wf awB_wf
  have k2 := resetI_c awB awA awB_wf awA_wf
  have k4 := same11_c awA awA awA_wf awA_wf
  have k3 := fun w => resetF_c awF emptyF awF_wf awE_wf w (.agg #[.int .i64 1, .int .u64 0, .int .u64 0, .int .u64 0, .int .u64 0, .slice none 0 0, .slice none 0 0, .slice none 0 0, .slice none 0 0]) (.agg #[.int .i64 0, .int .u64 0, .int .u64 0, .int .u64 0, .int .u64 0, .slice none 0 0, .slice none 0 0, .slice none 0 0, .slice none 0 0]) (GI.mk (h := awF) (SI.nil _ _) (SI.nil _ _) (SI.nil _ _) (SI.nil _ _)) (GI.mk (h := emptyF) (SI.nil _ _) (SI.nil _ _) (SI.nil _ _) (SI.nil _ _))
  rw [aw11_1] at k1
  rw [aw11_2] at k2
  rw [aw11_3] at k3
  rw [aw11_4] at k4
  have k5 := name_c 5
  rw [aw11_5] at k5
  have K5 := Aside0.mk k5
  clear k5
  have K1 := Aside0.mk k1
  have K2 := Aside0.mk k2
  have K3 := Aside0.mk k3
  have K4 := Aside0.mk k4
  clear k1 k2 k3 k4
  obtain ⟨b1, b2, b3, b4, b5, b6, bb⟩ := lit6 w (.cells #[.int .i64 3, .int .i64 2] 144) (.cells #[.int .i64 5, .int .i64 (-4)] 2) (.cells #[.int .i64 0, .int .u64 0, .int .u64 0, .int .u64 6, .int .u64 0, .slice (some ⟨w.heap.size, 0, none⟩) 1 1, .slice none 0 0, .slice (some ⟨w.heap.size + 1, 0, none⟩) 2 2, .slice none 0 0] 64) (.cells #[.int .i64 3, .int .i64 1] 144) (.cells #[.int .i64 9] 2) (.cells #[.int .i64 0, .int .u64 0, .int .u64 0, .int .u64 9, .int .u64 0, .slice (some ⟨w.heap.size + 1 + 1 + 1, 0, none⟩) 1 1, .slice none 0 0, .slice (some ⟨w.heap.size + 1 + 1 + 1 + 1, 0, none⟩) 1 1, .slice none 0 0] 64)
  have B := Aside0.mk bb
  have X := Aside0.mk (show Blk ((((((w.alloc (.cells #[.int .i64 3, .int .i64 2] 144)).alloc (.cells #[.int .i64 5, .int .i64 (-4)] 2)).alloc (.cells #[.int .i64 0, .int .u64 0, .int .u64 0, .int .u64 6, .int .u64 0, .slice (some ⟨w.heap.size, 0, none⟩) 1 1, .slice none 0 0, .slice (some ⟨w.heap.size + 1, 0, none⟩) 2 2, .slice none 0 0] 64)).alloc (.cells #[.int .i64 3, .int .i64 1] 144)).alloc (.cells #[.int .i64 9] 2)).alloc (.cells #[.int .i64 0, .int .u64 0, .int .u64 0, .int .u64 9, .int .u64 0, .slice (some ⟨w.heap.size + 1 + 1 + 1, 0, none⟩) 1 1, .slice none 0 0, .slice (some ⟨w.heap.size + 1 + 1 + 1 + 1, 0, none⟩) 1 1, .slice none 0 0] 64)) (w.heap.size + 1 + 1) #[.int .i64 0, .int .u64 0, .int .u64 0, .int .u64 6, .int .u64 0, .slice (some ⟨w.heap.size, 0, none⟩) 1 1, .slice none 0 0, .slice (some ⟨w.heap.size + 1, 0, none⟩) 2 2, .slice none 0 0] 64 from b3)
  have Y := Aside0.mk (show Blk ((((((w.alloc (.cells #[.int .i64 3, .int .i64 2] 144)).alloc (.cells #[.int .i64 5, .int .i64 (-4)] 2)).alloc (.cells #[.int .i64 0, .int .u64 0, .int .u64 0, .int .u64 6, .int .u64 0, .slice (some ⟨w.heap.size, 0, none⟩) 1 1, .slice none 0 0, .slice (some ⟨w.heap.size + 1, 0, none⟩) 2 2, .slice none 0 0] 64)).alloc (.cells #[.int .i64 3, .int .i64 1] 144)).alloc (.cells #[.int .i64 9] 2)).alloc (.cells #[.int .i64 0, .int .u64 0, .int .u64 0, .int .u64 9, .int .u64 0, .slice (some ⟨w.heap.size + 1 + 1 + 1, 0, none⟩) 1 1, .slice none 0 0, .slice (some ⟨w.heap.size + 1 + 1 + 1 + 1, 0, none⟩) 1 1, .slice none 0 0] 64)) (w.heap.size + 1 + 1 + 1 + 1 + 1) #[.int .i64 0, .int .u64 0, .int .u64 0, .int .u64 9, .int .u64 0, .slice (some ⟨w.heap.size + 1 + 1 + 1, 0, none⟩) 1 1, .slice none 0 0, .slice (some ⟨w.heap.size + 1 + 1 + 1 + 1, 0, none⟩) 1 1, .slice none 0 0] 64 from b6)
  have hx := fun i => X.out.cell i
  have hy := fun i => Y.out.cell i
  have HA := Aside0.mk (show HI ((((((w.alloc (.cells #[.int .i64 3, .int .i64 2] 144)).alloc (.cells #[.int .i64 5, .int .i64 (-4)] 2)).alloc (.cells #[.int .i64 0, .int .u64 0, .int .u64 0, .int .u64 6, .int .u64 0, .slice (some ⟨w.heap.size, 0, none⟩) 1 1, .slice none 0 0, .slice (some ⟨w.heap.size + 1, 0, none⟩) 2 2, .slice none 0 0] 64)).alloc (.cells #[.int .i64 3, .int .i64 1] 144)).alloc (.cells #[.int .i64 9] 2)).alloc (.cells #[.int .i64 0, .int .u64 0, .int .u64 0, .int .u64 9, .int .u64 0, .slice (some ⟨w.heap.size + 1 + 1 + 1, 0, none⟩) 1 1, .slice none 0 0, .slice (some ⟨w.heap.size + 1 + 1 + 1 + 1, 0, none⟩) 1 1, .slice none 0 0] 64)) (.agg #[.int .i64 0, .int .u64 0, .int .u64 0, .int .u64 6, .int .u64 0, .slice (some ⟨w.heap.size, 0, none⟩) 1 1, .slice none 0 0, .slice (some ⟨w.heap.size + 1, 0, none⟩) 2 2, .slice none 0 0]) awA from HI.mk (h := awA) (.of (C_of_blk [(⟨3, 2⟩ : S144)] b1 (reps_one_span _ 3 2) (by decide)) (by decide)) (SI.nil _ _) (.of (C_of_blk [5, -4] b2 (reps_nums _ .i64 [5, -4]) (by decide)) (by decide)) (SI.nil _ _))
  have HC := Aside0.mk (show HI ((((((w.alloc (.cells #[.int .i64 3, .int .i64 2] 144)).alloc (.cells #[.int .i64 5, .int .i64 (-4)] 2)).alloc (.cells #[.int .i64 0, .int .u64 0, .int .u64 0, .int .u64 6, .int .u64 0, .slice (some ⟨w.heap.size, 0, none⟩) 1 1, .slice none 0 0, .slice (some ⟨w.heap.size + 1, 0, none⟩) 2 2, .slice none 0 0] 64)).alloc (.cells #[.int .i64 3, .int .i64 1] 144)).alloc (.cells #[.int .i64 9] 2)).alloc (.cells #[.int .i64 0, .int .u64 0, .int .u64 0, .int .u64 9, .int .u64 0, .slice (some ⟨w.heap.size + 1 + 1 + 1, 0, none⟩) 1 1, .slice none 0 0, .slice (some ⟨w.heap.size + 1 + 1 + 1 + 1, 0, none⟩) 1 1, .slice none 0 0] 64)) (.agg #[.int .i64 0, .int .u64 0, .int .u64 0, .int .u64 9, .int .u64 0, .slice (some ⟨w.heap.size + 1 + 1 + 1, 0, none⟩) 1 1, .slice none 0 0, .slice (some ⟨w.heap.size + 1 + 1 + 1 + 1, 0, none⟩) 1 1, .slice none 0 0]) awB from HI.mk (h := awB) (.of (C_of_blk [(⟨3, 1⟩ : S144)] b4 (reps_one_span _ 3 1) (by decide)) (by decide)) (SI.nil _ _) (.of (C_of_blk [9] b5 (reps_nums _ .i64 [9]) (by decide)) (by decide)) (SI.nil _ _))
  clear b1 b2 b3 b4 b5 b6 bb
  go_enter Try.func55, Try.ntmps55
  go_wp2_with (first | (go_at_call 56; (with_reducible refine (K1.out _ _ _ HA.out HC.out).mono ?_); rintro e W1 ⟨rfl, hb⟩; replace B := Aside0.mk (below_then B.out B.out.size hb); replace HA := Aside0.mk (HA.out.below hb); replace HC := Aside0.mk (HC.out.below hb); replace X := Aside0.mk (X.out.below hb); replace hx := fun i => X.out.cell i; replace Y := Aside0.mk (Y.out.below hb); replace hy := fun i => Y.out.cell i; have hxa := fun i => (X.out.alloc (.cells #[.int .i64 5, .int .i64 4] 67)).cell i; have hya := fun i => (Y.out.alloc (.cells #[.int .i64 5, .int .i64 4] 67)).cell i; clear  hb))
  (try clear hxa hya)
  have hal := below_alloc (Below.refl W1.heap.size W1) (.cells #[.int .i64 5, .int .i64 4] 67)
  replace B := Aside0.mk (below_then B.out B.out.size hal)
  replace HA := Aside0.mk (HA.out.below hal)
  replace HC := Aside0.mk (HC.out.below hal)
  replace X := Aside0.mk (X.out.alloc (.cells #[.int .i64 5, .int .i64 4] 67)); replace hx := fun i => X.out.cell i
  replace Y := Aside0.mk (Y.out.alloc (.cells #[.int .i64 5, .int .i64 4] 67)); replace hy := fun i => Y.out.cell i
  have U := Aside0.mk (Blk.new W1 #[.int .i64 5, .int .i64 4] 67); have hu := fun i => U.out.cell i; clear hal
  go_wp2_with (first | (go_at_call 56; (with_reducible refine (K2.out _ _ _ HC.out HA.out).mono ?_); rintro e W2 ⟨rfl, hb⟩; replace B := Aside0.mk (below_then B.out B.out.size hb); replace HA := Aside0.mk (HA.out.below hb); replace HC := Aside0.mk (HC.out.below hb); replace X := Aside0.mk (X.out.below hb); replace hx := fun i => X.out.cell i; replace Y := Aside0.mk (Y.out.below hb); replace hy := fun i => Y.out.cell i; replace U := Aside0.mk (U.out.below hb); replace hu := fun i => U.out.cell i; have hxa := fun i => (X.out.alloc (.cells #[.int .i64 3, .int .i64 0] 67)).cell i; have hya := fun i => (Y.out.alloc (.cells #[.int .i64 3, .int .i64 0] 67)).cell i; have hua := fun i => (U.out.alloc (.cells #[.int .i64 3, .int .i64 0] 67)).cell i; clear  hb))
  (try clear hxa hya hua)
  have hal := below_alloc (Below.refl W2.heap.size W2) (.cells #[.int .i64 3, .int .i64 0] 67)
  replace B := Aside0.mk (below_then B.out B.out.size hal)
  replace HA := Aside0.mk (HA.out.below hal)
  replace HC := Aside0.mk (HC.out.below hal)
  replace X := Aside0.mk (X.out.alloc (.cells #[.int .i64 3, .int .i64 0] 67)); replace hx := fun i => X.out.cell i
  replace Y := Aside0.mk (Y.out.alloc (.cells #[.int .i64 3, .int .i64 0] 67)); replace hy := fun i => Y.out.cell i
  replace U := Aside0.mk (U.out.alloc (.cells #[.int .i64 3, .int .i64 0] 67)); replace hu := fun i => U.out.cell i
  have V := Aside0.mk (Blk.new W2 #[.int .i64 3, .int .i64 0] 67); have hv := fun i => V.out.cell i; clear hal
  go_wp2_with (first | (go_at_call 62; (with_reducible refine (K3.out _).mono ?_); rintro e W3 ⟨rfl, hb⟩; replace B := Aside0.mk (below_then B.out B.out.size hb); replace HA := Aside0.mk (HA.out.below hb); replace HC := Aside0.mk (HC.out.below hb); replace X := Aside0.mk (X.out.below hb); replace hx := fun i => X.out.cell i; replace Y := Aside0.mk (Y.out.below hb); replace hy := fun i => Y.out.cell i; replace U := Aside0.mk (U.out.below hb); replace hu := fun i => U.out.cell i; replace V := Aside0.mk (V.out.below hb); replace hv := fun i => V.out.cell i; have hxa := fun i => (X.out.alloc (.cells #[.int .i64 1, .int .i64 0] 67)).cell i; have hya := fun i => (Y.out.alloc (.cells #[.int .i64 1, .int .i64 0] 67)).cell i; have hua := fun i => (U.out.alloc (.cells #[.int .i64 1, .int .i64 0] 67)).cell i; have hva := fun i => (V.out.alloc (.cells #[.int .i64 1, .int .i64 0] 67)).cell i; clear  hb))
  (try clear hxa hya hua hva)
  have hal := below_alloc (Below.refl W3.heap.size W3) (.cells #[.int .i64 1, .int .i64 0] 67)
  replace B := Aside0.mk (below_then B.out B.out.size hal)
  replace HA := Aside0.mk (HA.out.below hal)
  replace HC := Aside0.mk (HC.out.below hal)
  replace X := Aside0.mk (X.out.alloc (.cells #[.int .i64 1, .int .i64 0] 67)); replace hx := fun i => X.out.cell i
  replace Y := Aside0.mk (Y.out.alloc (.cells #[.int .i64 1, .int .i64 0] 67)); replace hy := fun i => Y.out.cell i
  replace U := Aside0.mk (U.out.alloc (.cells #[.int .i64 1, .int .i64 0] 67)); replace hu := fun i => U.out.cell i
  replace V := Aside0.mk (V.out.alloc (.cells #[.int .i64 1, .int .i64 0] 67)); replace hv := fun i => V.out.cell i
  have T := Aside0.mk (Blk.new W3 #[.int .i64 1, .int .i64 0] 67); have ht := fun i => T.out.cell i; clear hal
  go_wp2_with (first | (go_at_call 59; (with_reducible refine (K4.out _ _ _ HA.out HA.out).mono ?_); rintro e W4 ⟨rfl, hb⟩; replace B := Aside0.mk (below_then B.out B.out.size hb); replace HA := Aside0.mk (HA.out.below hb); replace HC := Aside0.mk (HC.out.below hb); replace X := Aside0.mk (X.out.below hb); replace hx := fun i => X.out.cell i; replace Y := Aside0.mk (Y.out.below hb); replace hy := fun i => Y.out.cell i; replace U := Aside0.mk (U.out.below hb); replace hu := fun i => U.out.cell i; replace V := Aside0.mk (V.out.below hb); replace hv := fun i => V.out.cell i; replace T := Aside0.mk (T.out.below hb); replace ht := fun i => T.out.cell i; clear  hb) | (go_at_call 66; (with_reducible refine (K5.out _).mono ?_); rintro e W5 ⟨rfl, hb⟩; replace B := Aside0.mk (below_then B.out B.out.size hb); replace HA := Aside0.mk (HA.out.below hb); replace HC := Aside0.mk (HC.out.below hb); replace X := Aside0.mk (X.out.below hb); replace hx := fun i => X.out.cell i; replace Y := Aside0.mk (Y.out.below hb); replace hy := fun i => Y.out.cell i; replace U := Aside0.mk (U.out.below hb); replace hu := fun i => U.out.cell i; replace V := Aside0.mk (V.out.below hb); replace hv := fun i => V.out.cell i; replace T := Aside0.mk (T.out.below hb); replace ht := fun i => T.out.cell i; clear  hb))
  go_ret
  exact ⟨rfl, B.out⟩
end Go.Proofs.Ytacgeafjilipdaa.P
