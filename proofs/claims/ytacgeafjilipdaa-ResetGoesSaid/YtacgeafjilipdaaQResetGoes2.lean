/- ResetGoes: the part that this text bears of the proof that the statement answers true for every input. No condition. -/
import Derived.Test.YtacgeafjilipdaaProg
import Derived.Below
import Derived.Deep.Draws
import Derived.Deep.AppendLies
import Derived.Maps.AppendAt
import Derived.OwnWalk
import Derived.Laws.BytesArg
import Derived.Laws.MakeOwn
import Derived.Laws.OwnMore
import Derived.Deep.OwnRows
import Derived.Tactics
import Derived.Lib.ConvBytes
import Derived.Laws.Slices
import Derived.WalkKit
import Derived.KernelRfl
import Derived.RowKit3
import Derived.Deep.LoopGhost
import Derived.Deep.QuietTactic
import Derived.BigQuiet
import Derived.WideLaws
import Derived.Deep.DeepCutAuto
import Derived.Deep.CutBlock
import Derived.Deep.RegionHeld3
import Derived.Laws.Rows
import Derived.Lib.AppendStr
import Derived.ArgAppend
import Derived.Laws.IdiomCopy
import Derived.OrdersHeld
import Derived.Laws.BitsLemmas
import Derived.RowKit
import Derived.Deep.Slices
import Derived.ChangeArms
import Derived.Shelf.Abstract
import Derived.WalkSpells
import Derived.RangeFuncNested
import Derived.RangeFuncBound
import Derived.RangeFuncCalls
import Derived.RangeFuncLeaves
import Derived.RangeFuncBox
import Derived.OwnWalkIn
import Derived.TacticsInMore
import Derived.LoopNIn
import Derived.LoopIn
import Derived.Laws.Externs
import Derived.Shelf.Spec.BitsCarry
import Derived.RegionIn
import Derived.Sort.QuietTacIn
import Derived.Deep.RegionWith
import Derived.Laws.BitsAllLaws
import Derived.ProofKit
import Derived.JoinedOf
import Derived.OpenShut
import Derived.ShutString
import Derived.ChangeOld
import Derived.SizedLaws
import Derived.Test.YtacgeafjilipdaaQResetGoesWWords
import Derived.Test.YtacgeafjilipdaaQResetGoesWLast
import Derived.Test.YtacgeafjilipdaaQResetGoesWTab
import Derived.Test.YtacgeafjilipdaaQResetGoesWFour
import Derived.Test.YtacgeafjilipdaaQResetGoesWQPut
import Derived.Test.YtacgeafjilipdaaQResetGoesWApart
import Derived.Test.YtacgeafjilipdaaQResetGoesWArr
import Derived.Test.YtacgeafjilipdaaQResetGoesWZeros
import Derived.Test.YtacgeafjilipdaaQResetGoesWFoot
import Derived.Test.YtacgeafjilipdaaQResetGoesWKept
import Derived.Test.YtacgeafjilipdaaQResetGoesWShare
import Derived.Test.YtacgeafjilipdaaQResetGoesWN
import Derived.Test.YtacgeafjilipdaaQResetGoesWFootNe
import Derived.Test.YtacgeafjilipdaaQResetGoesWAt
import Derived.Test.YtacgeafjilipdaaQResetGoesWEqStruct
import Derived.Test.YtacgeafjilipdaaQResetGoesWRepsOne
import Derived.Test.YtacgeafjilipdaaQResetGoesWInv
import Derived.Test.YtacgeafjilipdaaQResetGoesWInvWords
import Derived.Test.YtacgeafjilipdaaQResetGoesWGuard
import Derived.Test.YtacgeafjilipdaaQResetGoesWNEv
import Derived.Test.YtacgeafjilipdaaQResetGoesWMore
import Derived.Test.YtacgeafjilipdaaRows
import Derived.Test.YtacgeafjilipdaaQResetGoes0
import Derived.Test.YtacgeafjilipdaaQResetGoes1
namespace Go.Proofs.Ytacgeafjilipdaa.P
open Go.RowKit Go.Proofs.YtacgeafjilipdaaW.PrintWords Go.Proofs.YtacgeafjilipdaaW.PrintLast Go.Proofs.YtacgeafjilipdaaW.PrintMore
attribute [local go_sem] max2_int min2_int max_two min_two max_three min_three max_four min_four
set_option linter.unusedVariables false
set_option linter.unusedSimpArgs false
def tidepolelaw11_few.l0 : Nat → Int → List (S144) → Int → Int → Option (Bool)
 | 0, _, _, _, _ => none
 | k + 1, x3, x6, x7, x8 => if x8 < x7 then (if 0 ≤ x8 then (if x8 < (x6.length : Int) then (if ((rd_T144 x6 x8).f1) > 0 then (if (wrap64 ((wrap64 (x3 + (wrap64 (1 + (wrap64 (Int.tdiv (mn ((rd_T144 x6 x8).f1) 5000) 10)))))) + 1)) > 400 then (some false) else (tidepolelaw11_few.l0 k (wrap64 ((wrap64 (x3 + (wrap64 (1 + (wrap64 (Int.tdiv (mn ((rd_T144 x6 x8).f1) 5000) 10)))))) + 1)) x6 x7 (wrap64 (x8 + 1)))) else (if (wrap64 (x3 + 1)) > 400 then (some false) else (tidepolelaw11_few.l0 k (wrap64 (x3 + 1)) x6 x7 (wrap64 (x8 + 1))))) else (none)) else (none)) else (some true)
def tidepolelaw11_few.f (k : Nat) (l0 : List (S144)) : Option (Bool) := tidepolelaw11_few.l0 k 0 l0 (l0.length : Int) 0
set_option maxHeartbeats 8000000 in
set_option maxRecDepth 100000 in
theorem tidepolelaw11_few.calls (k : Nat) (A0 : Option Addr) (c0 : Nat) (l0 : List (S144)) (r : Bool) (w : World) (hr0 : Kd.C k144 w A0 l0.length l0) (hc0 : l0.length ≤ c0) (h : tidepolelaw11_few.f k l0 = some r) :
  Calls Try.prog 134 #[.slice A0 l0.length c0] w fun e w' => e = .returned (.bool r) ∧ Below w.heap.size w w' := by
 have hu144 := Try.underlying144
 have HR0 := Aside0.mk hr0
 have HC0 := Aside0.mk hc0
 clear hr0 hc0
 have HB := Aside0.mk (Below.refl w.heap.size w)
 have H : (tidepolelaw11_few.l0 k 0 l0 (l0.length : Int) 0) = some r := h
 clear h
 have H' := Aside0.mk H
 clear H
 go_enter Try.func134, Try.ntmps134
 go_wp2
 go_loopg [3, 8] k (fun kq v3 v8 w' => ∃ (x3_1 : Int) (x8_1 : Int), v3 = .int .i64 x3_1 ∧ v8 = .int .i64 x8_1 ∧ Aside0 (tidepolelaw11_few.l0 kq x3_1 l0 (l0.length : Int) x8_1 = some r) ∧ Aside0 (kq ≤ k) ∧ Aside0 (Below w.heap.size w w'))
 case atStart => exact ⟨(0), (0), (by first | rfl | (simp; done) | (simp [*]; done)), (by first | rfl | (simp; done) | (simp [*]; done)), H', ⟨Nat.le_refl _⟩, ⟨by repeat (first | (with_reducible first | exact HB.out | apply below_alloc | apply pw_below_drewN | apply below_drew1) | exact HB.out)⟩⟩
 case round =>
  clear H'
  try clear c1
  obtain ⟨x3_1, x8_1, rfl, rfl, HA, HK1, HB⟩ := hrel
  cases gk with
  | zero => exact absurd HA.out (by simp [tidepolelaw11_few.l0])
  | succ k1 =>
   have H := HA.out
   clear HA
   simp only [tidepolelaw11_few.l0] at H
   by_cases c2 : x8_1 < (l0.length : Int)
   ·rw [if_pos c2] at H
    have c2b0 : decide (x8_1 < (l0.length : Int)) = true := decide_eq_true c2
    clear c2
    by_cases c3 : 0 ≤ x8_1
    ·rw [if_pos c3] at H
     have c3b0 : decide (0 ≤ x8_1) = true := decide_eq_true c3
     clear c3
     by_cases c4 : x8_1 < (l0.length : Int)
     ·rw [if_pos c4] at H
      have c4b0 : decide (x8_1 < (l0.length : Int)) = true := decide_eq_true c4
      clear c4
      by_cases c5 : ((rd_T144 l0 x8_1).f1) > 0
      ·rw [if_pos c5] at H
       have c5b0 : decide (0 < ((rd_T144 l0 x8_1).f1)) = true := decide_eq_true c5
       clear c5
       obtain ⟨ji6, hji6⟩ : ∃ j_ : Int, (mn ((rd_T144 l0 x8_1).f1) 5000) = j_ := ⟨_, rfl⟩
       replace H : (if (wrap64 ((wrap64 (x3_1 + (wrap64 (1 + (wrap64 (Int.tdiv (ji6) 10)))))) + 1)) > 400 then (some false) else (tidepolelaw11_few.l0 k1 (wrap64 ((wrap64 (x3_1 + (wrap64 (1 + (wrap64 (Int.tdiv (ji6) 10)))))) + 1)) l0 (l0.length : Int) (wrap64 (x8_1 + 1)))) = some r := by first | (rw [hji6] at H; exact H) | (simp only [hji6] at H ⊢; exact H)
       have hji6_ : (if 5000 < ((rd_T144 l0 x8_1).f1) then 5000 else ((rd_T144 l0 x8_1).f1)) = ji6 := hji6
       by_cases c7 : (wrap64 ((wrap64 (x3_1 + (wrap64 (1 + (wrap64 (Int.tdiv (ji6) 10)))))) + 1)) > 400
       ·rw [if_pos c7] at H
        have c7b0 : decide (400 < (wrap64 ((wrap64 (x3_1 + (wrap64 (1 + (wrap64 (Int.tdiv (ji6) 10)))))) + 1))) = true := decide_eq_true c7
        clear c7
        obtain rfl := Option.some.inj H
        have p101 : 0 ≤ (x8_1 : Int) := of_decide_eq_true (by first | (with_reducible assumption) | assumption)
        have q101 : x8_1 < (l0.length : Int) := of_decide_eq_true (by first | (with_reducible assumption) | assumption)
        obtain ⟨ad101, e101, hx101_0, hx101_1⟩ := at_T144 HR0.out x8_1 p101 q101
        cases e101
        replace hx101_0 := (HB.out.cell (World.block_lt_of_cell? w _ hx101_0)).trans hx101_0
        replace hx101_1 := (HB.out.cell (World.block_lt_of_cell? w _ hx101_1)).trans hx101_1
        replace p101 := eq_true p101
        replace q101 := eq_true q101
        go_wp2_with (first | ((with_reducible refine gate_dst (N := 5) rfl ?_); refine box_event ?hg (N := 5) ?hd (cs := #[.int .i64 0, .int .i64 0]) (t := 144) ?hr ?_; (case hd => rfl); (case hg => rfl); (case hr => first | (go_simp; done) | (go_simp; rfl)); intro gb102 hg w8 hbox hb; have n0_ := Aside0.mk (below_step (by repeat (first | (with_reducible first | exact HB.out | apply below_alloc | apply pw_below_drewN | apply below_drew1) | exact HB.out)) hb); have n1_ := Aside0.mk (hbox); have n2_ := Aside0.mk ((by rw [hg]; exact (below_size (by repeat (first | (with_reducible first | exact HB.out | apply below_alloc | apply pw_below_drewN | apply below_drew1) | exact HB.out))) : w.heap.size ≤ gb102)); have n3_ := Aside0.mk ((by rw [hg]; exact (below_size (by repeat (first | (with_reducible first | exact HB.out | apply below_alloc | apply pw_below_drewN | apply below_drew1) | exact HB.out))) : w.heap.size ≤ gb102)); clear HB; have HB := n0_; have BK102 := n1_; have GW102 := n2_; have GE102 := n3_; clear n0_ n1_ n2_ n3_; clear hb hbox hg; have hcz9_0 : w8.cell? ⟨gb102, 0, none⟩ = some (.int .i64 0) := (blk_cell BK102.out 0).trans rfl; have hcz9_1 : w8.cell? ⟨gb102, 1, none⟩ = some (.int .i64 0) := (blk_cell BK102.out 1).trans rfl; have hfz9_0 := blk_frozen BK102.out 0; have hfz9_1 := blk_frozen BK102.out 1))
        go_ret
        exact ⟨by first | rfl | (simp [errW_none, errW_some] <;> rfl) | (simp only [← hji6]; first | rfl | (simp [errW_none, errW_some] <;> rfl)) | (simp [*, errW_none, errW_some] <;> rfl), by repeat (first | (with_reducible first | exact HB.out | apply below_alloc | apply pw_below_drewN | apply below_drew1 | refine below_set ?_ GE102.out) | exact HB.out)⟩
       ·rw [if_neg c7] at H
        have c7b0 : decide (400 < (wrap64 ((wrap64 (x3_1 + (wrap64 (1 + (wrap64 (Int.tdiv (ji6) 10)))))) + 1))) = false := decide_eq_false c7
        clear c7
        have H' := Aside0.mk H
        clear H
        have p101 : 0 ≤ (x8_1 : Int) := of_decide_eq_true (by first | (with_reducible assumption) | assumption)
        have q101 : x8_1 < (l0.length : Int) := of_decide_eq_true (by first | (with_reducible assumption) | assumption)
        obtain ⟨ad101, e101, hx101_0, hx101_1⟩ := at_T144 HR0.out x8_1 p101 q101
        cases e101
        replace hx101_0 := (HB.out.cell (World.block_lt_of_cell? w _ hx101_0)).trans hx101_0
        replace hx101_1 := (HB.out.cell (World.block_lt_of_cell? w _ hx101_1)).trans hx101_1
        replace p101 := eq_true p101
        replace q101 := eq_true q101
        go_wp2_with (first | ((with_reducible refine gate_dst (N := 5) rfl ?_); refine box_event ?hg (N := 5) ?hd (cs := #[.int .i64 0, .int .i64 0]) (t := 144) ?hr ?_; (case hd => rfl); (case hg => rfl); (case hr => first | (go_simp; done) | (go_simp; rfl)); intro gb102 hg w10 hbox hb; have n0_ := Aside0.mk (below_step (by repeat (first | (with_reducible first | exact HB.out | apply below_alloc | apply pw_below_drewN | apply below_drew1) | exact HB.out)) hb); have n1_ := Aside0.mk (hbox); have n2_ := Aside0.mk ((by rw [hg]; exact (below_size (by repeat (first | (with_reducible first | exact HB.out | apply below_alloc | apply pw_below_drewN | apply below_drew1) | exact HB.out))) : w.heap.size ≤ gb102)); have n3_ := Aside0.mk ((by rw [hg]; exact (below_size (by repeat (first | (with_reducible first | exact HB.out | apply below_alloc | apply pw_below_drewN | apply below_drew1) | exact HB.out))) : w.heap.size ≤ gb102)); clear HB; have HB := n0_; have BK102 := n1_; have GW102 := n2_; have GE102 := n3_; clear n0_ n1_ n2_ n3_; clear hb hbox hg; have hcz11_0 : w10.cell? ⟨gb102, 0, none⟩ = some (.int .i64 0) := (blk_cell BK102.out 0).trans rfl; have hcz11_1 : w10.cell? ⟨gb102, 1, none⟩ = some (.int .i64 0) := (blk_cell BK102.out 1).trans rfl; have hfz11_0 := blk_frozen BK102.out 0; have hfz11_1 := blk_frozen BK102.out 1))
        go_roundg k1
        case measure => have := HK1.out; omega
        case rel => exact ⟨(wrap64 ((wrap64 (x3_1 + (wrap64 (1 + (wrap64 (Int.tdiv (ji6) 10)))))) + 1)), (wrap64 (x8_1 + 1)), (by first | rfl | (simp; done) | (simp only [← hji6] <;> (first | rfl | simp)) | (simp [*]; done)), (by first | rfl | (simp; done) | (simp [*]; done)), H', ⟨by have := HK1.out; omega⟩, ⟨by repeat (first | (with_reducible first | exact HB.out | apply below_alloc | apply pw_below_drewN | apply below_drew1 | refine below_set ?_ GE102.out) | exact HB.out)⟩⟩
      ·rw [if_neg c5] at H
       have c5b0 : decide (0 < ((rd_T144 l0 x8_1).f1)) = false := decide_eq_false c5
       clear c5
       by_cases c12 : (wrap64 (x3_1 + 1)) > 400
       ·rw [if_pos c12] at H
        have c12b0 : decide (400 < (wrap64 (x3_1 + 1))) = true := decide_eq_true c12
        clear c12
        obtain rfl := Option.some.inj H
        have p101 : 0 ≤ (x8_1 : Int) := of_decide_eq_true (by first | (with_reducible assumption) | assumption)
        have q101 : x8_1 < (l0.length : Int) := of_decide_eq_true (by first | (with_reducible assumption) | assumption)
        obtain ⟨ad101, e101, hx101_0, hx101_1⟩ := at_T144 HR0.out x8_1 p101 q101
        cases e101
        replace hx101_0 := (HB.out.cell (World.block_lt_of_cell? w _ hx101_0)).trans hx101_0
        replace hx101_1 := (HB.out.cell (World.block_lt_of_cell? w _ hx101_1)).trans hx101_1
        replace p101 := eq_true p101
        replace q101 := eq_true q101
        go_wp2_with (first | ((with_reducible refine gate_dst (N := 5) rfl ?_); refine box_event ?hg (N := 5) ?hd (cs := #[.int .i64 0, .int .i64 0]) (t := 144) ?hr ?_; (case hd => rfl); (case hg => rfl); (case hr => first | (go_simp; done) | (go_simp; rfl)); intro gb102 hg w13 hbox hb; have n0_ := Aside0.mk (below_step (by repeat (first | (with_reducible first | exact HB.out | apply below_alloc | apply pw_below_drewN | apply below_drew1) | exact HB.out)) hb); have n1_ := Aside0.mk (hbox); have n2_ := Aside0.mk ((by rw [hg]; exact (below_size (by repeat (first | (with_reducible first | exact HB.out | apply below_alloc | apply pw_below_drewN | apply below_drew1) | exact HB.out))) : w.heap.size ≤ gb102)); have n3_ := Aside0.mk ((by rw [hg]; exact (below_size (by repeat (first | (with_reducible first | exact HB.out | apply below_alloc | apply pw_below_drewN | apply below_drew1) | exact HB.out))) : w.heap.size ≤ gb102)); clear HB; have HB := n0_; have BK102 := n1_; have GW102 := n2_; have GE102 := n3_; clear n0_ n1_ n2_ n3_; clear hb hbox hg; have hcz14_0 : w13.cell? ⟨gb102, 0, none⟩ = some (.int .i64 0) := (blk_cell BK102.out 0).trans rfl; have hcz14_1 : w13.cell? ⟨gb102, 1, none⟩ = some (.int .i64 0) := (blk_cell BK102.out 1).trans rfl; have hfz14_0 := blk_frozen BK102.out 0; have hfz14_1 := blk_frozen BK102.out 1))
        go_ret
        exact ⟨by first | rfl | (simp [errW_none, errW_some] <;> rfl) | (simp [*, errW_none, errW_some] <;> rfl), by repeat (first | (with_reducible first | exact HB.out | apply below_alloc | apply pw_below_drewN | apply below_drew1 | refine below_set ?_ GE102.out) | exact HB.out)⟩
       ·rw [if_neg c12] at H
        have c12b0 : decide (400 < (wrap64 (x3_1 + 1))) = false := decide_eq_false c12
        clear c12
        have H' := Aside0.mk H
        clear H
        have p101 : 0 ≤ (x8_1 : Int) := of_decide_eq_true (by first | (with_reducible assumption) | assumption)
        have q101 : x8_1 < (l0.length : Int) := of_decide_eq_true (by first | (with_reducible assumption) | assumption)
        obtain ⟨ad101, e101, hx101_0, hx101_1⟩ := at_T144 HR0.out x8_1 p101 q101
        cases e101
        replace hx101_0 := (HB.out.cell (World.block_lt_of_cell? w _ hx101_0)).trans hx101_0
        replace hx101_1 := (HB.out.cell (World.block_lt_of_cell? w _ hx101_1)).trans hx101_1
        replace p101 := eq_true p101
        replace q101 := eq_true q101
        go_wp2_with (first | ((with_reducible refine gate_dst (N := 5) rfl ?_); refine box_event ?hg (N := 5) ?hd (cs := #[.int .i64 0, .int .i64 0]) (t := 144) ?hr ?_; (case hd => rfl); (case hg => rfl); (case hr => first | (go_simp; done) | (go_simp; rfl)); intro gb102 hg w15 hbox hb; have n0_ := Aside0.mk (below_step (by repeat (first | (with_reducible first | exact HB.out | apply below_alloc | apply pw_below_drewN | apply below_drew1) | exact HB.out)) hb); have n1_ := Aside0.mk (hbox); have n2_ := Aside0.mk ((by rw [hg]; exact (below_size (by repeat (first | (with_reducible first | exact HB.out | apply below_alloc | apply pw_below_drewN | apply below_drew1) | exact HB.out))) : w.heap.size ≤ gb102)); have n3_ := Aside0.mk ((by rw [hg]; exact (below_size (by repeat (first | (with_reducible first | exact HB.out | apply below_alloc | apply pw_below_drewN | apply below_drew1) | exact HB.out))) : w.heap.size ≤ gb102)); clear HB; have HB := n0_; have BK102 := n1_; have GW102 := n2_; have GE102 := n3_; clear n0_ n1_ n2_ n3_; clear hb hbox hg; have hcz16_0 : w15.cell? ⟨gb102, 0, none⟩ = some (.int .i64 0) := (blk_cell BK102.out 0).trans rfl; have hcz16_1 : w15.cell? ⟨gb102, 1, none⟩ = some (.int .i64 0) := (blk_cell BK102.out 1).trans rfl; have hfz16_0 := blk_frozen BK102.out 0; have hfz16_1 := blk_frozen BK102.out 1))
        go_roundg k1
        case measure => have := HK1.out; omega
        case rel => exact ⟨(wrap64 (x3_1 + 1)), (wrap64 (x8_1 + 1)), (by first | rfl | (simp; done) | (simp [*]; done)), (by first | rfl | (simp; done) | (simp [*]; done)), H', ⟨by have := HK1.out; omega⟩, ⟨by repeat (first | (with_reducible first | exact HB.out | apply below_alloc | apply pw_below_drewN | apply below_drew1 | refine below_set ?_ GE102.out) | exact HB.out)⟩⟩
     ·rw [if_neg c4] at H
      exact absurd H (by simp)
    ·rw [if_neg c3] at H
     exact absurd H (by simp)
   ·rw [if_neg c2] at H
    have c2b0 : decide (x8_1 < (l0.length : Int)) = false := decide_eq_false c2
    clear c2
    obtain rfl := Option.some.inj H
    go_wp2
    go_ret
    exact ⟨by first | rfl | (simp [errW_none, errW_some] <;> rfl) | (simp [*, errW_none, errW_some] <;> rfl), by repeat (first | (with_reducible first | exact HB.out | apply below_alloc | apply pw_below_drewN | apply below_drew1) | exact HB.out)⟩
end Go.Proofs.Ytacgeafjilipdaa.P
namespace Go.Proofs.Ytacgeafjilipdaa.P
open Go.RowKit Go.Shelf Go.Proofs.YtacgeafjilipdaaW.PrintWords Go.Proofs.YtacgeafjilipdaaW.PrintLast Go.Proofs.YtacgeafjilipdaaW.PrintMore
set_option linter.unusedVariables false
set_option linter.unusedSimpArgs false
def GR (w : World) (v : Value) (h : Fh) : Prop :=
  ∃ v5 v6 v7 v8, v = .agg #[.int .i64 h.f0, .int .u64 h.f1, .int .u64 h.f2, .int .u64 h.f3, .int .u64 h.f4, v5, v6, v7, v8] ∧ SI kRsp w v5 (h.f5.map toR) ∧ SI kRsp w v6 (h.f6.map toR) ∧ SI (Kd.int .u64) w v7 h.f7 ∧ SI (Kd.int .u64) w v8 h.f8
theorem GR.below {w w' : World} {v : Value} {h : Fh} (x : GR w v h) (hb : Below w.heap.size w w') : GR w' v h := by
  obtain ⟨v5, v6, v7, v8, e, h5, h6, h7, h8⟩ := x
  exact ⟨v5, v6, v7, v8, e, h5.below hb, h6.below hb, h7.below hb, h8.below hb⟩
theorem GR.open_ {w : World} {v : Value} {h : Fh} (x : GR w v h) : ∃ A5 c5 A6 c6 A7 c7 A8 c8, v = .agg #[.int .i64 h.f0, .int .u64 h.f1, .int .u64 h.f2, .int .u64 h.f3, .int .u64 h.f4, .slice A5 h.f5.length c5, .slice A6 h.f6.length c6, .slice A7 h.f7.length c7, .slice A8 h.f8.length c8] ∧
    SI kRsp w (.slice A5 h.f5.length c5) (h.f5.map toR) ∧ SI kRsp w (.slice A6 h.f6.length c6) (h.f6.map toR) ∧ SI (Kd.int .u64) w (.slice A7 h.f7.length c7) h.f7 ∧ SI (Kd.int .u64) w (.slice A8 h.f8.length c8) h.f8 := by
  obtain ⟨v5, v6, v7, v8, rfl, h5, h6, h7, h8⟩ := x
  obtain ⟨A5, c5, rfl, h51, h52⟩ := h5
  obtain ⟨A6, c6, rfl, h61, h62⟩ := h6
  obtain ⟨A7, c7, rfl, h71, h72⟩ := h7
  obtain ⟨A8, c8, rfl, h81, h82⟩ := h8
  rw [List.length_map]
  rw [List.length_map]
  refine ⟨A5, c5, A6, c6, A7, c7, A8, c8, rfl, ⟨A5, c5, by rw [List.length_map], h51, h52⟩, ⟨A6, c6, by rw [List.length_map], h61, h62⟩, .of h72 h71, .of h82 h81⟩
theorem few11_c (l : List Sp) (hw : wfSps l) : ∃ b : Bool, (b = true → l.length ≤ 400) ∧ ∀ (w : World) (v : Value), SI kSp w v l → Calls Try.prog 134 #[v] w fun e w' => e = .returned (.bool b) ∧ Below w.heap.size w w' := by
  have hl : ∀ (d k i : Nat) (n : Int), 401 - i = d → d < k → i ≤ l.length → (i : Int) ≤ n → n ≤ 400 → ∃ b, tidepolelaw11_few.l0 k n l (l.length : Int) (i : Int) = some b ∧ (b = true → l.length ≤ 400) := by
    intro d
    induction d with
    | zero => intro k i n hd hk hi h0 h1; omega
    | succ d ih =>
      intro k i n hd hk hi h0 h1
      obtain ⟨k, rfl⟩ : ∃ m, k = m + 1 := ⟨k - 1, by omega⟩
      simp only [tidepolelaw11_few.l0]
      by_cases hlt : i < l.length
      · rw [if_pos (by omega), if_pos (by omega), if_pos (by omega), rdSp_at hlt, wrap_succ (by omega)]
        generalize l[i] = s
        have hrec : ∀ m : Int, n + 1 ≤ m → ∃ b, (if m > 400 then some false else tidepolelaw11_few.l0 k m l (l.length : Int) ((i + 1 : Nat) : Int)) = some b ∧ (b = true → l.length ≤ 400) := by
          intro m hm
          by_cases c : m > 400
          · rw [if_pos c]; exact ⟨false, rfl, fun h => by cases h⟩
          · rw [if_neg c]; exact ih k (i + 1) m (by omega) (by omega) (by omega) (by omega) (by omega)
        by_cases c : s.f1 > 0
        · rw [if_pos c]
          have hmn : 0 ≤ mn s.f1 5000 ∧ mn s.f1 5000 ≤ 5000 := by unfold mn; omega
          have ht := Int.tdiv_eq_ediv_of_nonneg (b := 10) hmn.1
          rw [ht]
          refine hrec _ ?_
          rw [wrap_id (x := mn s.f1 5000 / 10) (by omega) (by omega), wrap_id (x := 1 + mn s.f1 5000 / 10) (by omega) (by omega), wrap_id (x := n + (1 + mn s.f1 5000 / 10)) (by omega) (by omega), wrap_id (by omega) (by omega)]
          omega
        · rw [if_neg c]
          refine hrec _ ?_
          rw [wrap_id (by omega) (by omega)]; omega
      · rw [if_neg (by omega)]; exact ⟨true, rfl, fun _ => by omega⟩
  obtain ⟨b, h1, h2⟩ := hl 401 402 0 0 (by omega) (by omega) (by omega) (by omega) (by omega)
  refine ⟨b, h2, fun w v hv => ?_⟩
  obtain ⟨A, c, rfl, hc, hr⟩ := hv
  exact (tidepolelaw11_few.calls 402 A c l b w hr hc h1).mono fun e w1 h => ⟨h.1, h.2⟩
set_option maxHeartbeats 8000000 in
set_option maxRecDepth 100000 in
theorem small11_c (h : Hi) (hw5 : wfSps h.f5) (hw6 : wfSps h.f6) : ∃ b : Bool, (b = true → h.f5.length ≤ 400 ∧ h.f6.length ≤ 400 ∧ h.f7.length ≤ 300 ∧ h.f8.length ≤ 300) ∧ ∀ (w : World) (v : Value), HI w v h → Calls Try.prog 54 #[v] w fun e w' => e = .returned (.bool b) ∧ Below w.heap.size w w' := by
  obtain ⟨b1, hb1, c1⟩ := few11_c h.f5 hw5
  obtain ⟨b2, hb2, c2⟩ := few11_c h.f6 hw6
  have C1 := Aside0.mk c1
  have C2 := Aside0.mk c2
  have hu := Try.underlying64
  clear c1 c2
  cases b1 with
  | false =>
    refine ⟨false, (fun h => nomatch h), fun w v hv => ?_⟩
    obtain ⟨A5, c5, A6, c6, A7, c7, A8, c8, e, h5, h6, h7, h8⟩ := hv.open_
    subst e
    have B := Aside0.mk (below_alloc (Below.refl w.heap.size w) (.cells #[.int .i64 h.f0, .int .u64 h.f1, .int .u64 h.f2, .int .u64 h.f3, .int .u64 h.f4, .slice A5 h.f5.length c5, .slice A6 h.f6.length c6, .slice A7 h.f7.length c7, .slice A8 h.f8.length c8] 64))
    have X := Aside0.mk (Blk.new w #[.int .i64 h.f0, .int .u64 h.f1, .int .u64 h.f2, .int .u64 h.f3, .int .u64 h.f4, .slice A5 h.f5.length c5, .slice A6 h.f6.length c6, .slice A7 h.f7.length c7, .slice A8 h.f8.length c8] 64)
    have hx := fun i => X.out.cell i
    have H5 := Aside0.mk (h5.below B.out)
    have H6 := Aside0.mk (h6.below B.out)
    clear hv h5 h6 h7 h8
    go_enter Try.func54, Try.ntmps54
    go_wp2_with (first | (go_at_call 134; (with_reducible refine (C1.out _ _ H5.out).mono ?_); rintro e W ⟨rfl, hb⟩; replace B := Aside0.mk (below_then B.out B.out.size hb); replace H5 := Aside0.mk (H5.out.below hb); replace H6 := Aside0.mk (H6.out.below hb); replace X := Aside0.mk (X.out.below hb); replace hx := fun i => X.out.cell i; clear  hb))
    go_ret
    exact ⟨rfl, B.out⟩
  | true =>
    have n1 := hb1 rfl
    cases b2 with
    | false =>
      refine ⟨false, (fun h => nomatch h), fun w v hv => ?_⟩
      obtain ⟨A5, c5, A6, c6, A7, c7, A8, c8, e, h5, h6, h7, h8⟩ := hv.open_
      subst e
      have B := Aside0.mk (below_alloc (Below.refl w.heap.size w) (.cells #[.int .i64 h.f0, .int .u64 h.f1, .int .u64 h.f2, .int .u64 h.f3, .int .u64 h.f4, .slice A5 h.f5.length c5, .slice A6 h.f6.length c6, .slice A7 h.f7.length c7, .slice A8 h.f8.length c8] 64))
      have X := Aside0.mk (Blk.new w #[.int .i64 h.f0, .int .u64 h.f1, .int .u64 h.f2, .int .u64 h.f3, .int .u64 h.f4, .slice A5 h.f5.length c5, .slice A6 h.f6.length c6, .slice A7 h.f7.length c7, .slice A8 h.f8.length c8] 64)
      have hx := fun i => X.out.cell i
      have H5 := Aside0.mk (h5.below B.out)
      have H6 := Aside0.mk (h6.below B.out)
      clear hv h5 h6 h7 h8
      go_enter Try.func54, Try.ntmps54
      go_wp2_with (first | (go_at_call 134; (with_reducible refine (C1.out _ _ H5.out).mono ?_); rintro e W ⟨rfl, hb⟩; replace B := Aside0.mk (below_then B.out B.out.size hb); replace H5 := Aside0.mk (H5.out.below hb); replace H6 := Aside0.mk (H6.out.below hb); replace X := Aside0.mk (X.out.below hb); replace hx := fun i => X.out.cell i; clear  hb) | (go_at_call 134; (with_reducible refine (C2.out _ _ H6.out).mono ?_); rintro e W ⟨rfl, hb⟩; replace B := Aside0.mk (below_then B.out B.out.size hb); replace H5 := Aside0.mk (H5.out.below hb); replace H6 := Aside0.mk (H6.out.below hb); replace X := Aside0.mk (X.out.below hb); replace hx := fun i => X.out.cell i; clear  hb))
      go_ret
      exact ⟨rfl, B.out⟩
    | true =>
      have n2 := hb2 rfl
      by_cases c3 : h.f7.length ≤ 300
      · by_cases c4 : h.f8.length ≤ 300
        · refine ⟨true, fun _ => ⟨n1, n2, c3, c4⟩, fun w v hv => ?_⟩
          have d3 : decide ((h.f7.length : Int) ≤ 300) = true := decide_eq_true (by omega)
          have d4 : decide ((h.f8.length : Int) ≤ 300) = true := decide_eq_true (by omega)
          clear n1 n2 hb1 hb2
          obtain ⟨A5, c5, A6, c6, A7, c7, A8, c8, e, h5, h6, h7, h8⟩ := hv.open_
          subst e
          have B := Aside0.mk (below_alloc (Below.refl w.heap.size w) (.cells #[.int .i64 h.f0, .int .u64 h.f1, .int .u64 h.f2, .int .u64 h.f3, .int .u64 h.f4, .slice A5 h.f5.length c5, .slice A6 h.f6.length c6, .slice A7 h.f7.length c7, .slice A8 h.f8.length c8] 64))
          have X := Aside0.mk (Blk.new w #[.int .i64 h.f0, .int .u64 h.f1, .int .u64 h.f2, .int .u64 h.f3, .int .u64 h.f4, .slice A5 h.f5.length c5, .slice A6 h.f6.length c6, .slice A7 h.f7.length c7, .slice A8 h.f8.length c8] 64)
          have hx := fun i => X.out.cell i
          have H5 := Aside0.mk (h5.below B.out)
          have H6 := Aside0.mk (h6.below B.out)
          clear hv h5 h6 h7 h8
          go_enter Try.func54, Try.ntmps54
          go_wp2_with (first | (go_at_call 134; (with_reducible refine (C1.out _ _ H5.out).mono ?_); rintro e W ⟨rfl, hb⟩; replace B := Aside0.mk (below_then B.out B.out.size hb); replace H5 := Aside0.mk (H5.out.below hb); replace H6 := Aside0.mk (H6.out.below hb); replace X := Aside0.mk (X.out.below hb); replace hx := fun i => X.out.cell i; clear  hb) | (go_at_call 134; (with_reducible refine (C2.out _ _ H6.out).mono ?_); rintro e W ⟨rfl, hb⟩; replace B := Aside0.mk (below_then B.out B.out.size hb); replace H5 := Aside0.mk (H5.out.below hb); replace H6 := Aside0.mk (H6.out.below hb); replace X := Aside0.mk (X.out.below hb); replace hx := fun i => X.out.cell i; clear  hb))
          go_ret
          exact ⟨rfl, B.out⟩
        · refine ⟨false, (fun h => nomatch h), fun w v hv => ?_⟩
          have d3 : decide ((h.f7.length : Int) ≤ 300) = true := decide_eq_true (by omega)
          have d4 : decide ((h.f8.length : Int) ≤ 300) = false := decide_eq_false (by omega)
          clear n1 n2 hb1 hb2
          obtain ⟨A5, c5, A6, c6, A7, c7, A8, c8, e, h5, h6, h7, h8⟩ := hv.open_
          subst e
          have B := Aside0.mk (below_alloc (Below.refl w.heap.size w) (.cells #[.int .i64 h.f0, .int .u64 h.f1, .int .u64 h.f2, .int .u64 h.f3, .int .u64 h.f4, .slice A5 h.f5.length c5, .slice A6 h.f6.length c6, .slice A7 h.f7.length c7, .slice A8 h.f8.length c8] 64))
          have X := Aside0.mk (Blk.new w #[.int .i64 h.f0, .int .u64 h.f1, .int .u64 h.f2, .int .u64 h.f3, .int .u64 h.f4, .slice A5 h.f5.length c5, .slice A6 h.f6.length c6, .slice A7 h.f7.length c7, .slice A8 h.f8.length c8] 64)
          have hx := fun i => X.out.cell i
          have H5 := Aside0.mk (h5.below B.out)
          have H6 := Aside0.mk (h6.below B.out)
          clear hv h5 h6 h7 h8
          go_enter Try.func54, Try.ntmps54
          go_wp2_with (first | (go_at_call 134; (with_reducible refine (C1.out _ _ H5.out).mono ?_); rintro e W ⟨rfl, hb⟩; replace B := Aside0.mk (below_then B.out B.out.size hb); replace H5 := Aside0.mk (H5.out.below hb); replace H6 := Aside0.mk (H6.out.below hb); replace X := Aside0.mk (X.out.below hb); replace hx := fun i => X.out.cell i; clear  hb) | (go_at_call 134; (with_reducible refine (C2.out _ _ H6.out).mono ?_); rintro e W ⟨rfl, hb⟩; replace B := Aside0.mk (below_then B.out B.out.size hb); replace H5 := Aside0.mk (H5.out.below hb); replace H6 := Aside0.mk (H6.out.below hb); replace X := Aside0.mk (X.out.below hb); replace hx := fun i => X.out.cell i; clear  hb))
          go_ret
          exact ⟨rfl, B.out⟩
      · refine ⟨false, (fun h => nomatch h), fun w v hv => ?_⟩
        have d3 : decide ((h.f7.length : Int) ≤ 300) = false := decide_eq_false (by omega)
        clear n1 n2 hb1 hb2
        obtain ⟨A5, c5, A6, c6, A7, c7, A8, c8, e, h5, h6, h7, h8⟩ := hv.open_
        subst e
        have B := Aside0.mk (below_alloc (Below.refl w.heap.size w) (.cells #[.int .i64 h.f0, .int .u64 h.f1, .int .u64 h.f2, .int .u64 h.f3, .int .u64 h.f4, .slice A5 h.f5.length c5, .slice A6 h.f6.length c6, .slice A7 h.f7.length c7, .slice A8 h.f8.length c8] 64))
        have X := Aside0.mk (Blk.new w #[.int .i64 h.f0, .int .u64 h.f1, .int .u64 h.f2, .int .u64 h.f3, .int .u64 h.f4, .slice A5 h.f5.length c5, .slice A6 h.f6.length c6, .slice A7 h.f7.length c7, .slice A8 h.f8.length c8] 64)
        have hx := fun i => X.out.cell i
        have H5 := Aside0.mk (h5.below B.out)
        have H6 := Aside0.mk (h6.below B.out)
        clear hv h5 h6 h7 h8
        go_enter Try.func54, Try.ntmps54
        go_wp2_with (first | (go_at_call 134; (with_reducible refine (C1.out _ _ H5.out).mono ?_); rintro e W ⟨rfl, hb⟩; replace B := Aside0.mk (below_then B.out B.out.size hb); replace H5 := Aside0.mk (H5.out.below hb); replace H6 := Aside0.mk (H6.out.below hb); replace X := Aside0.mk (X.out.below hb); replace hx := fun i => X.out.cell i; clear  hb) | (go_at_call 134; (with_reducible refine (C2.out _ _ H6.out).mono ?_); rintro e W ⟨rfl, hb⟩; replace B := Aside0.mk (below_then B.out B.out.size hb); replace H5 := Aside0.mk (H5.out.below hb); replace H6 := Aside0.mk (H6.out.below hb); replace X := Aside0.mk (X.out.below hb); replace hx := fun i => X.out.cell i; clear  hb))
        go_ret
        exact ⟨rfl, B.out⟩
end Go.Proofs.Ytacgeafjilipdaa.P
namespace Go.Proofs.Ytacgeafjilipdaa.P
open Go.RowKit Go.Shelf Go.Proofs.YtacgeafjilipdaaW.PrintWords Go.Proofs.YtacgeafjilipdaaW.PrintLast Go.Proofs.YtacgeafjilipdaaW.PrintMore
set_option linter.unusedVariables false
set_option linter.unusedSimpArgs false
def wfI (h : Hi) : Prop := i64 h.f0 ∧ u64 h.f1 ∧ u64 h.f2 ∧ u64 h.f3 ∧ u64 h.f4 ∧ wfSps h.f5 ∧ wfSps h.f6 ∧ i64s h.f7 ∧ i64s h.f8
instance (h : Hi) : Decidable (wfI h) := by unfold wfI; exact inferInstance
theorem wfH_of {h : Hi} (x : wfI h) (h7 : h.f7.length ≤ 300) (h8 : h.f8.length ≤ 300) : wfH h := ⟨x.1, x.2.1, x.2.2.1, x.2.2.2.1, x.2.2.2.2.1, x.2.2.2.2.2.1, x.2.2.2.2.2.2.1, x.2.2.2.2.2.2.2.1, x.2.2.2.2.2.2.2.2, by omega, by omega⟩
theorem wfI_of {x : S64} (h : wf64 x) : wfI x := ⟨i64_of h.1, u64_of h.2.1, u64_of h.2.2.1, u64_of h.2.2.2.1, u64_of h.2.2.2.2.1, wfSps_of h.2.2.2.2.2.1, wfSps_of h.2.2.2.2.2.2.1, i64_all h.2.2.2.2.2.2.2.1, i64_all h.2.2.2.2.2.2.2.2⟩
end Go.Proofs.Ytacgeafjilipdaa.P
namespace Go.Proofs.Ytacgeafjilipdaa.P
open Go.RowKit Go.Shelf Go.Proofs.YtacgeafjilipdaaW.PrintWords Go.Proofs.YtacgeafjilipdaaW.PrintLast Go.Proofs.YtacgeafjilipdaaW.PrintMore
set_option linter.unusedVariables false
set_option linter.unusedSimpArgs false
theorem intsR_self {a : Hi} (h : wfH a) : intsR a a = ((0, 0), checkR a) := by
  unfold intsR
  by_cases c : checkR a = 0
  · rw [if_neg (by simp [c]), if_neg (by simp [c]), intsV_fst (intsV_self h), c]
  · rw [if_pos c]
theorem intsR_goes {a b c : Hi} (hc : wfH c) (e1 : (intsR a b).2 = 0) (e2 : (intsR b c).2 = 0) (h1 : (intsR a b).1.1 = 0) (h2 : (intsR b c).1.1 = 0) : (intsR a c).2 = 0 ∧ (intsR a c).1.1 = 0 := by
  have zero : ∀ {x y : Hi}, (intsR x y).2 = 0 → checkR x = 0 ∧ checkR y = 0 ∧ intsR x y = (intsV x y, 0) := fun {x y} h => by
    unfold intsR at h ⊢
    by_cases c1 : checkR x = 0
    · rw [if_neg (by simp [c1])] at h ⊢
      by_cases c2 : checkR y = 0
      · rw [if_neg (by simp [c2])]; exact ⟨c1, c2, rfl⟩
      · rw [if_pos c2] at h; exact absurd h c2
    · rw [if_pos c1] at h; exact absurd h c1
  obtain ⟨k1, k2, k3⟩ := zero e1
  obtain ⟨l1, l2, l3⟩ := zero e2
  rw [k3] at h1
  rw [l3] at h2
  have : intsR a c = (intsV a c, 0) := by unfold intsR; rw [if_neg (by simp [k1]), if_neg (by simp [l2])]
  rw [this]
  exact ⟨rfl, intsV_goes hc h1 h2⟩
set_option maxHeartbeats 32000000 in
set_option maxRecDepth 100000 in
theorem resetGoes_c (a b c : Hi) (hwa : wfI a) (hwb : wfI b) (hwc : wfI c) (w : World) (u v t : Value) (hua : HI w u a) (hub : HI w v b) (huc : HI w t c) : Calls Try.prog 11 #[u, v, t] w fun e w' => e = .returned (.bool true) ∧ Below w.heap.size w w' := by
  have hud := Try.underlying64
  have huv := Try.underlying67
  obtain ⟨b1, hb1, cs⟩ := small11_c a hwa.2.2.2.2.2.1 hwa.2.2.2.2.2.2.1
  obtain ⟨b2, hb2, ct⟩ := small11_c b hwb.2.2.2.2.2.1 hwb.2.2.2.2.2.2.1
  obtain ⟨b3, hb3, cu⟩ := small11_c c hwc.2.2.2.2.2.1 hwc.2.2.2.2.2.2.1
  have CS := Aside0.mk cs
  have CT := Aside0.mk ct
  have CU := Aside0.mk cu
  clear cs ct cu
  by_cases hs : b1 = true ∧ b2 = true ∧ b3 = true
  rotate_left
  · clear hb1 hb2 hb3
    obtain ⟨A5a, c5a, A6a, c6a, A7a, c7a, A8a, c8a, e, -⟩ := hua.open_
    subst e
    obtain ⟨A5b, c5b, A6b, c6b, A7b, c7b, A8b, c8b, e, -⟩ := hub.open_
    subst e
    obtain ⟨A5c, c5c, A6c, c6c, A7c, c7c, A8c, c8c, e, -⟩ := huc.open_
    subst e
    have B := Aside0.mk (below_alloc (below_alloc (below_alloc (Below.refl w.heap.size w) (.cells #[.int .i64 a.f0, .int .u64 a.f1, .int .u64 a.f2, .int .u64 a.f3, .int .u64 a.f4, .slice A5a a.f5.length c5a, .slice A6a a.f6.length c6a, .slice A7a a.f7.length c7a, .slice A8a a.f8.length c8a] 64)) (.cells #[.int .i64 b.f0, .int .u64 b.f1, .int .u64 b.f2, .int .u64 b.f3, .int .u64 b.f4, .slice A5b b.f5.length c5b, .slice A6b b.f6.length c6b, .slice A7b b.f7.length c7b, .slice A8b b.f8.length c8b] 64)) (.cells #[.int .i64 c.f0, .int .u64 c.f1, .int .u64 c.f2, .int .u64 c.f3, .int .u64 c.f4, .slice A5c c.f5.length c5c, .slice A6c c.f6.length c6c, .slice A7c c.f7.length c7c, .slice A8c c.f8.length c8c] 64))
    have X := Aside0.mk (((Blk.new w #[.int .i64 a.f0, .int .u64 a.f1, .int .u64 a.f2, .int .u64 a.f3, .int .u64 a.f4, .slice A5a a.f5.length c5a, .slice A6a a.f6.length c6a, .slice A7a a.f7.length c7a, .slice A8a a.f8.length c8a] 64).alloc (.cells #[.int .i64 b.f0, .int .u64 b.f1, .int .u64 b.f2, .int .u64 b.f3, .int .u64 b.f4, .slice A5b b.f5.length c5b, .slice A6b b.f6.length c6b, .slice A7b b.f7.length c7b, .slice A8b b.f8.length c8b] 64)).alloc (.cells #[.int .i64 c.f0, .int .u64 c.f1, .int .u64 c.f2, .int .u64 c.f3, .int .u64 c.f4, .slice A5c c.f5.length c5c, .slice A6c c.f6.length c6c, .slice A7c c.f7.length c7c, .slice A8c c.f8.length c8c] 64))
    have hx := fun i => X.out.cell i
    have Y := Aside0.mk ((show Blk ((w.alloc (.cells #[.int .i64 a.f0, .int .u64 a.f1, .int .u64 a.f2, .int .u64 a.f3, .int .u64 a.f4, .slice A5a a.f5.length c5a, .slice A6a a.f6.length c6a, .slice A7a a.f7.length c7a, .slice A8a a.f8.length c8a] 64)).alloc (.cells #[.int .i64 b.f0, .int .u64 b.f1, .int .u64 b.f2, .int .u64 b.f3, .int .u64 b.f4, .slice A5b b.f5.length c5b, .slice A6b b.f6.length c6b, .slice A7b b.f7.length c7b, .slice A8b b.f8.length c8b] 64)) (w.heap.size + 1) #[.int .i64 b.f0, .int .u64 b.f1, .int .u64 b.f2, .int .u64 b.f3, .int .u64 b.f4, .slice A5b b.f5.length c5b, .slice A6b b.f6.length c6b, .slice A7b b.f7.length c7b, .slice A8b b.f8.length c8b] 64 by have := Blk.new (w.alloc (.cells #[.int .i64 a.f0, .int .u64 a.f1, .int .u64 a.f2, .int .u64 a.f3, .int .u64 a.f4, .slice A5a a.f5.length c5a, .slice A6a a.f6.length c6a, .slice A7a a.f7.length c7a, .slice A8a a.f8.length c8a] 64)) #[.int .i64 b.f0, .int .u64 b.f1, .int .u64 b.f2, .int .u64 b.f3, .int .u64 b.f4, .slice A5b b.f5.length c5b, .slice A6b b.f6.length c6b, .slice A7b b.f7.length c7b, .slice A8b b.f8.length c8b] 64; simpa using this).alloc (.cells #[.int .i64 c.f0, .int .u64 c.f1, .int .u64 c.f2, .int .u64 c.f3, .int .u64 c.f4, .slice A5c c.f5.length c5c, .slice A6c c.f6.length c6c, .slice A7c c.f7.length c7c, .slice A8c c.f8.length c8c] 64))
    have hy := fun i => Y.out.cell i
    have Z := Aside0.mk (show Blk (((w.alloc (.cells #[.int .i64 a.f0, .int .u64 a.f1, .int .u64 a.f2, .int .u64 a.f3, .int .u64 a.f4, .slice A5a a.f5.length c5a, .slice A6a a.f6.length c6a, .slice A7a a.f7.length c7a, .slice A8a a.f8.length c8a] 64)).alloc (.cells #[.int .i64 b.f0, .int .u64 b.f1, .int .u64 b.f2, .int .u64 b.f3, .int .u64 b.f4, .slice A5b b.f5.length c5b, .slice A6b b.f6.length c6b, .slice A7b b.f7.length c7b, .slice A8b b.f8.length c8b] 64)).alloc (.cells #[.int .i64 c.f0, .int .u64 c.f1, .int .u64 c.f2, .int .u64 c.f3, .int .u64 c.f4, .slice A5c c.f5.length c5c, .slice A6c c.f6.length c6c, .slice A7c c.f7.length c7c, .slice A8c c.f8.length c8c] 64)) (w.heap.size + 1 + 1) #[.int .i64 c.f0, .int .u64 c.f1, .int .u64 c.f2, .int .u64 c.f3, .int .u64 c.f4, .slice A5c c.f5.length c5c, .slice A6c c.f6.length c6c, .slice A7c c.f7.length c7c, .slice A8c c.f8.length c8c] 64 by have := Blk.new ((w.alloc (.cells #[.int .i64 a.f0, .int .u64 a.f1, .int .u64 a.f2, .int .u64 a.f3, .int .u64 a.f4, .slice A5a a.f5.length c5a, .slice A6a a.f6.length c6a, .slice A7a a.f7.length c7a, .slice A8a a.f8.length c8a] 64)).alloc (.cells #[.int .i64 b.f0, .int .u64 b.f1, .int .u64 b.f2, .int .u64 b.f3, .int .u64 b.f4, .slice A5b b.f5.length c5b, .slice A6b b.f6.length c6b, .slice A7b b.f7.length c7b, .slice A8b b.f8.length c8b] 64)) #[.int .i64 c.f0, .int .u64 c.f1, .int .u64 c.f2, .int .u64 c.f3, .int .u64 c.f4, .slice A5c c.f5.length c5c, .slice A6c c.f6.length c6c, .slice A7c c.f7.length c7c, .slice A8c c.f8.length c8c] 64; simpa using this)
    have hz := fun i => Z.out.cell i
    have HA := Aside0.mk (hua.below B.out)
    have HB := Aside0.mk (hub.below B.out)
    have HC := Aside0.mk (huc.below B.out)
    clear hua hub huc
    cases b1 with
    | false =>
      go_enter Try.func11, Try.ntmps11
      go_wp2_with (first | (go_at_call 54; (with_reducible refine (CS.out _ _ HA.out).mono ?_); rintro e W1 ⟨rfl, hb⟩; replace B := Aside0.mk (below_then B.out B.out.size hb); replace HA := Aside0.mk (HA.out.below hb); replace HB := Aside0.mk (HB.out.below hb); replace HC := Aside0.mk (HC.out.below hb); replace X := Aside0.mk (X.out.below hb); replace hx := fun i => X.out.cell i; replace Y := Aside0.mk (Y.out.below hb); replace hy := fun i => Y.out.cell i; replace Z := Aside0.mk (Z.out.below hb); replace hz := fun i => Z.out.cell i; clear  hb) | (go_at_call 55; (with_reducible refine (awake11_c _).mono ?_); rintro e W4 ⟨rfl, hb⟩; replace B := Aside0.mk (below_then B.out B.out.size hb); replace HA := Aside0.mk (HA.out.below hb); replace HB := Aside0.mk (HB.out.below hb); replace HC := Aside0.mk (HC.out.below hb); replace X := Aside0.mk (X.out.below hb); replace hx := fun i => X.out.cell i; replace Y := Aside0.mk (Y.out.below hb); replace hy := fun i => Y.out.cell i; replace Z := Aside0.mk (Z.out.below hb); replace hz := fun i => Z.out.cell i; clear  hb))
      go_ret
      exact ⟨rfl, B.out⟩
    | true =>
      cases b2 with
      | false =>
        go_enter Try.func11, Try.ntmps11
        go_wp2_with (first | (go_at_call 54; (with_reducible refine (CS.out _ _ HA.out).mono ?_); rintro e W1 ⟨rfl, hb⟩; replace B := Aside0.mk (below_then B.out B.out.size hb); replace HA := Aside0.mk (HA.out.below hb); replace HB := Aside0.mk (HB.out.below hb); replace HC := Aside0.mk (HC.out.below hb); replace X := Aside0.mk (X.out.below hb); replace hx := fun i => X.out.cell i; replace Y := Aside0.mk (Y.out.below hb); replace hy := fun i => Y.out.cell i; replace Z := Aside0.mk (Z.out.below hb); replace hz := fun i => Z.out.cell i; clear  hb) | (go_at_call 54; (with_reducible refine (CT.out _ _ HB.out).mono ?_); rintro e W2 ⟨rfl, hb⟩; replace B := Aside0.mk (below_then B.out B.out.size hb); replace HA := Aside0.mk (HA.out.below hb); replace HB := Aside0.mk (HB.out.below hb); replace HC := Aside0.mk (HC.out.below hb); replace X := Aside0.mk (X.out.below hb); replace hx := fun i => X.out.cell i; replace Y := Aside0.mk (Y.out.below hb); replace hy := fun i => Y.out.cell i; replace Z := Aside0.mk (Z.out.below hb); replace hz := fun i => Z.out.cell i; clear  hb) | (go_at_call 55; (with_reducible refine (awake11_c _).mono ?_); rintro e W4 ⟨rfl, hb⟩; replace B := Aside0.mk (below_then B.out B.out.size hb); replace HA := Aside0.mk (HA.out.below hb); replace HB := Aside0.mk (HB.out.below hb); replace HC := Aside0.mk (HC.out.below hb); replace X := Aside0.mk (X.out.below hb); replace hx := fun i => X.out.cell i; replace Y := Aside0.mk (Y.out.below hb); replace hy := fun i => Y.out.cell i; replace Z := Aside0.mk (Z.out.below hb); replace hz := fun i => Z.out.cell i; clear  hb))
        go_ret
        exact ⟨rfl, B.out⟩
      | true =>
        cases b3 with
        | false =>
          go_enter Try.func11, Try.ntmps11
          go_wp2_with (first | (go_at_call 54; (with_reducible refine (CS.out _ _ HA.out).mono ?_); rintro e W1 ⟨rfl, hb⟩; replace B := Aside0.mk (below_then B.out B.out.size hb); replace HA := Aside0.mk (HA.out.below hb); replace HB := Aside0.mk (HB.out.below hb); replace HC := Aside0.mk (HC.out.below hb); replace X := Aside0.mk (X.out.below hb); replace hx := fun i => X.out.cell i; replace Y := Aside0.mk (Y.out.below hb); replace hy := fun i => Y.out.cell i; replace Z := Aside0.mk (Z.out.below hb); replace hz := fun i => Z.out.cell i; clear  hb) | (go_at_call 54; (with_reducible refine (CT.out _ _ HB.out).mono ?_); rintro e W2 ⟨rfl, hb⟩; replace B := Aside0.mk (below_then B.out B.out.size hb); replace HA := Aside0.mk (HA.out.below hb); replace HB := Aside0.mk (HB.out.below hb); replace HC := Aside0.mk (HC.out.below hb); replace X := Aside0.mk (X.out.below hb); replace hx := fun i => X.out.cell i; replace Y := Aside0.mk (Y.out.below hb); replace hy := fun i => Y.out.cell i; replace Z := Aside0.mk (Z.out.below hb); replace hz := fun i => Z.out.cell i; clear  hb) | (go_at_call 54; (with_reducible refine (CU.out _ _ HC.out).mono ?_); rintro e W3 ⟨rfl, hb⟩; replace B := Aside0.mk (below_then B.out B.out.size hb); replace HA := Aside0.mk (HA.out.below hb); replace HB := Aside0.mk (HB.out.below hb); replace HC := Aside0.mk (HC.out.below hb); replace X := Aside0.mk (X.out.below hb); replace hx := fun i => X.out.cell i; replace Y := Aside0.mk (Y.out.below hb); replace hy := fun i => Y.out.cell i; replace Z := Aside0.mk (Z.out.below hb); replace hz := fun i => Z.out.cell i; clear  hb) | (go_at_call 55; (with_reducible refine (awake11_c _).mono ?_); rintro e W4 ⟨rfl, hb⟩; replace B := Aside0.mk (below_then B.out B.out.size hb); replace HA := Aside0.mk (HA.out.below hb); replace HB := Aside0.mk (HB.out.below hb); replace HC := Aside0.mk (HC.out.below hb); replace X := Aside0.mk (X.out.below hb); replace hx := fun i => X.out.cell i; replace Y := Aside0.mk (Y.out.below hb); replace hy := fun i => Y.out.cell i; replace Z := Aside0.mk (Z.out.below hb); replace hz := fun i => Z.out.cell i; clear  hb))
          go_ret
          exact ⟨rfl, B.out⟩
        | true => exact absurd ⟨rfl, rfl, rfl⟩ hs
  obtain ⟨q1, q2, q3⟩ := hs
  subst q1; subst q2; subst q3
  obtain ⟨n5, n6, n7, n8⟩ := hb1 rfl
  obtain ⟨m5, m6, m7, m8⟩ := hb2 rfl
  obtain ⟨o5, o6, o7, o8⟩ := hb3 rfl
  have hWa := wfH_of hwa n7 n8
  have hWb := wfH_of hwb m7 m8
  have hWc := wfH_of hwc o7 o8
  have k1 := resetI_c a b hWa hWb
  have k2 := resetI_c b c hWb hWc
  have k3 := resetI_c a c hWa hWc
  have k4 := resetI_c a a hWa hWa
  have ck := check_c a hWa
  rw [intsR_self hWa] at k4
  have hg := @intsR_goes a b c hWc
  clear n5 n6 n7 n8 m5 m6 m7 m8 o5 o6 o7 o8 hb1 hb2 hb3 hwa hwb hwc hWa hWb hWc
  generalize intsR a b = r1 at *
  generalize intsR b c = r2 at *
  generalize intsR a c = r3 at *
  obtain ⟨⟨v1, v2⟩, e⟩ := r1
  obtain ⟨⟨w1, w2⟩, f⟩ := r2
  obtain ⟨⟨x1, x2⟩, g⟩ := r3
  simp only at k1 k2 k3 k4 hg
  generalize checkR a = ea at *
  have K1 := Aside0.mk k1
  have K2 := Aside0.mk k2
  have K3 := Aside0.mk k3
  have K4 := Aside0.mk k4
  have CK := Aside0.mk ck
  clear k1 k2 k3 k4 ck
  have d0 : ((ea == 0) != (ea == 0)) = false := bne_self_eq_false _
  by_cases c1 : e = 0
  rotate_left
  · have d1 : (e != 0) = true := bne_iff_ne.2 c1
    clear c1 hg
    obtain ⟨A5a, c5a, A6a, c6a, A7a, c7a, A8a, c8a, e, -⟩ := hua.open_
    subst e
    obtain ⟨A5b, c5b, A6b, c6b, A7b, c7b, A8b, c8b, e, -⟩ := hub.open_
    subst e
    obtain ⟨A5c, c5c, A6c, c6c, A7c, c7c, A8c, c8c, e, -⟩ := huc.open_
    subst e
    have B := Aside0.mk (below_alloc (below_alloc (below_alloc (Below.refl w.heap.size w) (.cells #[.int .i64 a.f0, .int .u64 a.f1, .int .u64 a.f2, .int .u64 a.f3, .int .u64 a.f4, .slice A5a a.f5.length c5a, .slice A6a a.f6.length c6a, .slice A7a a.f7.length c7a, .slice A8a a.f8.length c8a] 64)) (.cells #[.int .i64 b.f0, .int .u64 b.f1, .int .u64 b.f2, .int .u64 b.f3, .int .u64 b.f4, .slice A5b b.f5.length c5b, .slice A6b b.f6.length c6b, .slice A7b b.f7.length c7b, .slice A8b b.f8.length c8b] 64)) (.cells #[.int .i64 c.f0, .int .u64 c.f1, .int .u64 c.f2, .int .u64 c.f3, .int .u64 c.f4, .slice A5c c.f5.length c5c, .slice A6c c.f6.length c6c, .slice A7c c.f7.length c7c, .slice A8c c.f8.length c8c] 64))
    have X := Aside0.mk (((Blk.new w #[.int .i64 a.f0, .int .u64 a.f1, .int .u64 a.f2, .int .u64 a.f3, .int .u64 a.f4, .slice A5a a.f5.length c5a, .slice A6a a.f6.length c6a, .slice A7a a.f7.length c7a, .slice A8a a.f8.length c8a] 64).alloc (.cells #[.int .i64 b.f0, .int .u64 b.f1, .int .u64 b.f2, .int .u64 b.f3, .int .u64 b.f4, .slice A5b b.f5.length c5b, .slice A6b b.f6.length c6b, .slice A7b b.f7.length c7b, .slice A8b b.f8.length c8b] 64)).alloc (.cells #[.int .i64 c.f0, .int .u64 c.f1, .int .u64 c.f2, .int .u64 c.f3, .int .u64 c.f4, .slice A5c c.f5.length c5c, .slice A6c c.f6.length c6c, .slice A7c c.f7.length c7c, .slice A8c c.f8.length c8c] 64))
    have hx := fun i => X.out.cell i
    have Y := Aside0.mk ((show Blk ((w.alloc (.cells #[.int .i64 a.f0, .int .u64 a.f1, .int .u64 a.f2, .int .u64 a.f3, .int .u64 a.f4, .slice A5a a.f5.length c5a, .slice A6a a.f6.length c6a, .slice A7a a.f7.length c7a, .slice A8a a.f8.length c8a] 64)).alloc (.cells #[.int .i64 b.f0, .int .u64 b.f1, .int .u64 b.f2, .int .u64 b.f3, .int .u64 b.f4, .slice A5b b.f5.length c5b, .slice A6b b.f6.length c6b, .slice A7b b.f7.length c7b, .slice A8b b.f8.length c8b] 64)) (w.heap.size + 1) #[.int .i64 b.f0, .int .u64 b.f1, .int .u64 b.f2, .int .u64 b.f3, .int .u64 b.f4, .slice A5b b.f5.length c5b, .slice A6b b.f6.length c6b, .slice A7b b.f7.length c7b, .slice A8b b.f8.length c8b] 64 by have := Blk.new (w.alloc (.cells #[.int .i64 a.f0, .int .u64 a.f1, .int .u64 a.f2, .int .u64 a.f3, .int .u64 a.f4, .slice A5a a.f5.length c5a, .slice A6a a.f6.length c6a, .slice A7a a.f7.length c7a, .slice A8a a.f8.length c8a] 64)) #[.int .i64 b.f0, .int .u64 b.f1, .int .u64 b.f2, .int .u64 b.f3, .int .u64 b.f4, .slice A5b b.f5.length c5b, .slice A6b b.f6.length c6b, .slice A7b b.f7.length c7b, .slice A8b b.f8.length c8b] 64; simpa using this).alloc (.cells #[.int .i64 c.f0, .int .u64 c.f1, .int .u64 c.f2, .int .u64 c.f3, .int .u64 c.f4, .slice A5c c.f5.length c5c, .slice A6c c.f6.length c6c, .slice A7c c.f7.length c7c, .slice A8c c.f8.length c8c] 64))
    have hy := fun i => Y.out.cell i
    have Z := Aside0.mk (show Blk (((w.alloc (.cells #[.int .i64 a.f0, .int .u64 a.f1, .int .u64 a.f2, .int .u64 a.f3, .int .u64 a.f4, .slice A5a a.f5.length c5a, .slice A6a a.f6.length c6a, .slice A7a a.f7.length c7a, .slice A8a a.f8.length c8a] 64)).alloc (.cells #[.int .i64 b.f0, .int .u64 b.f1, .int .u64 b.f2, .int .u64 b.f3, .int .u64 b.f4, .slice A5b b.f5.length c5b, .slice A6b b.f6.length c6b, .slice A7b b.f7.length c7b, .slice A8b b.f8.length c8b] 64)).alloc (.cells #[.int .i64 c.f0, .int .u64 c.f1, .int .u64 c.f2, .int .u64 c.f3, .int .u64 c.f4, .slice A5c c.f5.length c5c, .slice A6c c.f6.length c6c, .slice A7c c.f7.length c7c, .slice A8c c.f8.length c8c] 64)) (w.heap.size + 1 + 1) #[.int .i64 c.f0, .int .u64 c.f1, .int .u64 c.f2, .int .u64 c.f3, .int .u64 c.f4, .slice A5c c.f5.length c5c, .slice A6c c.f6.length c6c, .slice A7c c.f7.length c7c, .slice A8c c.f8.length c8c] 64 by have := Blk.new ((w.alloc (.cells #[.int .i64 a.f0, .int .u64 a.f1, .int .u64 a.f2, .int .u64 a.f3, .int .u64 a.f4, .slice A5a a.f5.length c5a, .slice A6a a.f6.length c6a, .slice A7a a.f7.length c7a, .slice A8a a.f8.length c8a] 64)).alloc (.cells #[.int .i64 b.f0, .int .u64 b.f1, .int .u64 b.f2, .int .u64 b.f3, .int .u64 b.f4, .slice A5b b.f5.length c5b, .slice A6b b.f6.length c6b, .slice A7b b.f7.length c7b, .slice A8b b.f8.length c8b] 64)) #[.int .i64 c.f0, .int .u64 c.f1, .int .u64 c.f2, .int .u64 c.f3, .int .u64 c.f4, .slice A5c c.f5.length c5c, .slice A6c c.f6.length c6c, .slice A7c c.f7.length c7c, .slice A8c c.f8.length c8c] 64; simpa using this)
    have hz := fun i => Z.out.cell i
    have HA := Aside0.mk (hua.below B.out)
    have HB := Aside0.mk (hub.below B.out)
    have HC := Aside0.mk (huc.below B.out)
    clear hua hub huc
    go_enter Try.func11, Try.ntmps11
    go_wp2_with (first | (go_at_call 54; (with_reducible refine (CS.out _ _ HA.out).mono ?_); rintro e W1 ⟨rfl, hb⟩; replace B := Aside0.mk (below_then B.out B.out.size hb); replace HA := Aside0.mk (HA.out.below hb); replace HB := Aside0.mk (HB.out.below hb); replace HC := Aside0.mk (HC.out.below hb); replace X := Aside0.mk (X.out.below hb); replace hx := fun i => X.out.cell i; replace Y := Aside0.mk (Y.out.below hb); replace hy := fun i => Y.out.cell i; replace Z := Aside0.mk (Z.out.below hb); replace hz := fun i => Z.out.cell i; clear  hb) | (go_at_call 54; (with_reducible refine (CT.out _ _ HB.out).mono ?_); rintro e W2 ⟨rfl, hb⟩; replace B := Aside0.mk (below_then B.out B.out.size hb); replace HA := Aside0.mk (HA.out.below hb); replace HB := Aside0.mk (HB.out.below hb); replace HC := Aside0.mk (HC.out.below hb); replace X := Aside0.mk (X.out.below hb); replace hx := fun i => X.out.cell i; replace Y := Aside0.mk (Y.out.below hb); replace hy := fun i => Y.out.cell i; replace Z := Aside0.mk (Z.out.below hb); replace hz := fun i => Z.out.cell i; clear  hb) | (go_at_call 54; (with_reducible refine (CU.out _ _ HC.out).mono ?_); rintro e W3 ⟨rfl, hb⟩; replace B := Aside0.mk (below_then B.out B.out.size hb); replace HA := Aside0.mk (HA.out.below hb); replace HB := Aside0.mk (HB.out.below hb); replace HC := Aside0.mk (HC.out.below hb); replace X := Aside0.mk (X.out.below hb); replace hx := fun i => X.out.cell i; replace Y := Aside0.mk (Y.out.below hb); replace hy := fun i => Y.out.cell i; replace Z := Aside0.mk (Z.out.below hb); replace hz := fun i => Z.out.cell i; clear  hb) | (go_at_call 56; (with_reducible refine (K1.out _ _ _ HA.out HB.out).mono ?_); rintro e W4 ⟨rfl, hb⟩; replace B := Aside0.mk (below_then B.out B.out.size hb); replace HA := Aside0.mk (HA.out.below hb); replace HB := Aside0.mk (HB.out.below hb); replace HC := Aside0.mk (HC.out.below hb); replace X := Aside0.mk (X.out.below hb); replace hx := fun i => X.out.cell i; replace Y := Aside0.mk (Y.out.below hb); replace hy := fun i => Y.out.cell i; replace Z := Aside0.mk (Z.out.below hb); replace hz := fun i => Z.out.cell i; have hxa := fun i => (X.out.alloc (.cells #[.int .i64 v1, .int .i64 v2] 67)).cell i; have hya := fun i => (Y.out.alloc (.cells #[.int .i64 v1, .int .i64 v2] 67)).cell i; have hza := fun i => (Z.out.alloc (.cells #[.int .i64 v1, .int .i64 v2] 67)).cell i; clear  hb))
    (try clear hxa hya hza)
    have hal := below_alloc (Below.refl W4.heap.size W4) (.cells #[.int .i64 v1, .int .i64 v2] 67)
    replace B := Aside0.mk (below_then B.out B.out.size hal)
    replace HA := Aside0.mk (HA.out.below hal)
    replace HB := Aside0.mk (HB.out.below hal)
    replace HC := Aside0.mk (HC.out.below hal)
    replace X := Aside0.mk (X.out.alloc (.cells #[.int .i64 v1, .int .i64 v2] 67)); replace hx := fun i => X.out.cell i
    replace Y := Aside0.mk (Y.out.alloc (.cells #[.int .i64 v1, .int .i64 v2] 67)); replace hy := fun i => Y.out.cell i
    replace Z := Aside0.mk (Z.out.alloc (.cells #[.int .i64 v1, .int .i64 v2] 67)); replace hz := fun i => Z.out.cell i
    have P := Aside0.mk (Blk.new W4 #[.int .i64 v1, .int .i64 v2] 67); have hp := fun i => P.out.cell i; clear hal
    go_wp2_with (first | (go_at_call 56; (with_reducible refine (K2.out _ _ _ HB.out HC.out).mono ?_); rintro e W5 ⟨rfl, hb⟩; replace B := Aside0.mk (below_then B.out B.out.size hb); replace HA := Aside0.mk (HA.out.below hb); replace HB := Aside0.mk (HB.out.below hb); replace HC := Aside0.mk (HC.out.below hb); replace X := Aside0.mk (X.out.below hb); replace hx := fun i => X.out.cell i; replace Y := Aside0.mk (Y.out.below hb); replace hy := fun i => Y.out.cell i; replace Z := Aside0.mk (Z.out.below hb); replace hz := fun i => Z.out.cell i; replace P := Aside0.mk (P.out.below hb); replace hp := fun i => P.out.cell i; have hxa := fun i => (X.out.alloc (.cells #[.int .i64 w1, .int .i64 w2] 67)).cell i; have hya := fun i => (Y.out.alloc (.cells #[.int .i64 w1, .int .i64 w2] 67)).cell i; have hza := fun i => (Z.out.alloc (.cells #[.int .i64 w1, .int .i64 w2] 67)).cell i; have hpa := fun i => (P.out.alloc (.cells #[.int .i64 w1, .int .i64 w2] 67)).cell i; clear  hb))
    (try clear hxa hya hza hpa)
    have hal := below_alloc (Below.refl W5.heap.size W5) (.cells #[.int .i64 w1, .int .i64 w2] 67)
    replace B := Aside0.mk (below_then B.out B.out.size hal)
    replace HA := Aside0.mk (HA.out.below hal)
    replace HB := Aside0.mk (HB.out.below hal)
    replace HC := Aside0.mk (HC.out.below hal)
    replace X := Aside0.mk (X.out.alloc (.cells #[.int .i64 w1, .int .i64 w2] 67)); replace hx := fun i => X.out.cell i
    replace Y := Aside0.mk (Y.out.alloc (.cells #[.int .i64 w1, .int .i64 w2] 67)); replace hy := fun i => Y.out.cell i
    replace Z := Aside0.mk (Z.out.alloc (.cells #[.int .i64 w1, .int .i64 w2] 67)); replace hz := fun i => Z.out.cell i
    replace P := Aside0.mk (P.out.alloc (.cells #[.int .i64 w1, .int .i64 w2] 67)); replace hp := fun i => P.out.cell i
    have Q := Aside0.mk (Blk.new W5 #[.int .i64 w1, .int .i64 w2] 67); have hq := fun i => Q.out.cell i; clear hal
    go_wp2_with (first | (go_at_call 56; (with_reducible refine (K3.out _ _ _ HA.out HC.out).mono ?_); rintro e W6 ⟨rfl, hb⟩; replace B := Aside0.mk (below_then B.out B.out.size hb); replace HA := Aside0.mk (HA.out.below hb); replace HB := Aside0.mk (HB.out.below hb); replace HC := Aside0.mk (HC.out.below hb); replace X := Aside0.mk (X.out.below hb); replace hx := fun i => X.out.cell i; replace Y := Aside0.mk (Y.out.below hb); replace hy := fun i => Y.out.cell i; replace Z := Aside0.mk (Z.out.below hb); replace hz := fun i => Z.out.cell i; replace P := Aside0.mk (P.out.below hb); replace hp := fun i => P.out.cell i; replace Q := Aside0.mk (Q.out.below hb); replace hq := fun i => Q.out.cell i; have hxa := fun i => (X.out.alloc (.cells #[.int .i64 x1, .int .i64 x2] 67)).cell i; have hya := fun i => (Y.out.alloc (.cells #[.int .i64 x1, .int .i64 x2] 67)).cell i; have hza := fun i => (Z.out.alloc (.cells #[.int .i64 x1, .int .i64 x2] 67)).cell i; have hpa := fun i => (P.out.alloc (.cells #[.int .i64 x1, .int .i64 x2] 67)).cell i; have hqa := fun i => (Q.out.alloc (.cells #[.int .i64 x1, .int .i64 x2] 67)).cell i; clear  hb))
    (try clear hxa hya hza hpa hqa)
    have hal := below_alloc (Below.refl W6.heap.size W6) (.cells #[.int .i64 x1, .int .i64 x2] 67)
    replace B := Aside0.mk (below_then B.out B.out.size hal)
    replace HA := Aside0.mk (HA.out.below hal)
    replace HB := Aside0.mk (HB.out.below hal)
    replace HC := Aside0.mk (HC.out.below hal)
    replace X := Aside0.mk (X.out.alloc (.cells #[.int .i64 x1, .int .i64 x2] 67)); replace hx := fun i => X.out.cell i
    replace Y := Aside0.mk (Y.out.alloc (.cells #[.int .i64 x1, .int .i64 x2] 67)); replace hy := fun i => Y.out.cell i
    replace Z := Aside0.mk (Z.out.alloc (.cells #[.int .i64 x1, .int .i64 x2] 67)); replace hz := fun i => Z.out.cell i
    replace P := Aside0.mk (P.out.alloc (.cells #[.int .i64 x1, .int .i64 x2] 67)); replace hp := fun i => P.out.cell i
    replace Q := Aside0.mk (Q.out.alloc (.cells #[.int .i64 x1, .int .i64 x2] 67)); replace hq := fun i => Q.out.cell i
    have R := Aside0.mk (Blk.new W6 #[.int .i64 x1, .int .i64 x2] 67); have hr := fun i => R.out.cell i; clear hal
    go_wp2_with (first | (go_at_call 56; (with_reducible refine (K4.out _ _ _ HA.out HA.out).mono ?_); rintro e W7 ⟨rfl, hb⟩; replace B := Aside0.mk (below_then B.out B.out.size hb); replace HA := Aside0.mk (HA.out.below hb); replace HB := Aside0.mk (HB.out.below hb); replace HC := Aside0.mk (HC.out.below hb); replace X := Aside0.mk (X.out.below hb); replace hx := fun i => X.out.cell i; replace Y := Aside0.mk (Y.out.below hb); replace hy := fun i => Y.out.cell i; replace Z := Aside0.mk (Z.out.below hb); replace hz := fun i => Z.out.cell i; replace P := Aside0.mk (P.out.below hb); replace hp := fun i => P.out.cell i; replace Q := Aside0.mk (Q.out.below hb); replace hq := fun i => Q.out.cell i; replace R := Aside0.mk (R.out.below hb); replace hr := fun i => R.out.cell i; have hxa := fun i => (X.out.alloc (.cells #[.int .i64 0, .int .i64 0] 67)).cell i; have hya := fun i => (Y.out.alloc (.cells #[.int .i64 0, .int .i64 0] 67)).cell i; have hza := fun i => (Z.out.alloc (.cells #[.int .i64 0, .int .i64 0] 67)).cell i; have hpa := fun i => (P.out.alloc (.cells #[.int .i64 0, .int .i64 0] 67)).cell i; have hqa := fun i => (Q.out.alloc (.cells #[.int .i64 0, .int .i64 0] 67)).cell i; have hra := fun i => (R.out.alloc (.cells #[.int .i64 0, .int .i64 0] 67)).cell i; clear  hb))
    (try clear hxa hya hza hpa hqa hra)
    have hal := below_alloc (Below.refl W7.heap.size W7) (.cells #[.int .i64 0, .int .i64 0] 67)
    replace B := Aside0.mk (below_then B.out B.out.size hal)
    replace HA := Aside0.mk (HA.out.below hal)
    replace HB := Aside0.mk (HB.out.below hal)
    replace HC := Aside0.mk (HC.out.below hal)
    replace X := Aside0.mk (X.out.alloc (.cells #[.int .i64 0, .int .i64 0] 67)); replace hx := fun i => X.out.cell i
    replace Y := Aside0.mk (Y.out.alloc (.cells #[.int .i64 0, .int .i64 0] 67)); replace hy := fun i => Y.out.cell i
    replace Z := Aside0.mk (Z.out.alloc (.cells #[.int .i64 0, .int .i64 0] 67)); replace hz := fun i => Z.out.cell i
    replace P := Aside0.mk (P.out.alloc (.cells #[.int .i64 0, .int .i64 0] 67)); replace hp := fun i => P.out.cell i
    replace Q := Aside0.mk (Q.out.alloc (.cells #[.int .i64 0, .int .i64 0] 67)); replace hq := fun i => Q.out.cell i
    replace R := Aside0.mk (R.out.alloc (.cells #[.int .i64 0, .int .i64 0] 67)); replace hr := fun i => R.out.cell i
    have S := Aside0.mk (Blk.new W7 #[.int .i64 0, .int .i64 0] 67); have hs := fun i => S.out.cell i; clear hal
    go_wp2_with (first | (go_at_call 67; (with_reducible refine (CK.out _ _ HA.out).mono ?_); rintro e W8 ⟨rfl, hb⟩; replace B := Aside0.mk (below_then B.out B.out.size hb); replace HA := Aside0.mk (HA.out.below hb); replace HB := Aside0.mk (HB.out.below hb); replace HC := Aside0.mk (HC.out.below hb); replace X := Aside0.mk (X.out.below hb); replace hx := fun i => X.out.cell i; replace Y := Aside0.mk (Y.out.below hb); replace hy := fun i => Y.out.cell i; replace Z := Aside0.mk (Z.out.below hb); replace hz := fun i => Z.out.cell i; replace P := Aside0.mk (P.out.below hb); replace hp := fun i => P.out.cell i; replace Q := Aside0.mk (Q.out.below hb); replace hq := fun i => Q.out.cell i; replace R := Aside0.mk (R.out.below hb); replace hr := fun i => R.out.cell i; replace S := Aside0.mk (S.out.below hb); replace hs := fun i => S.out.cell i; clear  hb) | (go_at_call 55; (with_reducible refine (awake11_c _).mono ?_); rintro e W9 ⟨rfl, hb⟩; replace B := Aside0.mk (below_then B.out B.out.size hb); replace HA := Aside0.mk (HA.out.below hb); replace HB := Aside0.mk (HB.out.below hb); replace HC := Aside0.mk (HC.out.below hb); replace X := Aside0.mk (X.out.below hb); replace hx := fun i => X.out.cell i; replace Y := Aside0.mk (Y.out.below hb); replace hy := fun i => Y.out.cell i; replace Z := Aside0.mk (Z.out.below hb); replace hz := fun i => Z.out.cell i; replace P := Aside0.mk (P.out.below hb); replace hp := fun i => P.out.cell i; replace Q := Aside0.mk (Q.out.below hb); replace hq := fun i => Q.out.cell i; replace R := Aside0.mk (R.out.below hb); replace hr := fun i => R.out.cell i; replace S := Aside0.mk (S.out.below hb); replace hs := fun i => S.out.cell i; clear  hb))
    go_ret
    exact ⟨rfl, B.out⟩
  subst c1
  by_cases c2 : f = 0
  rotate_left
  · have d1 : (f != 0) = true := bne_iff_ne.2 c2
    clear c2 hg
    obtain ⟨A5a, c5a, A6a, c6a, A7a, c7a, A8a, c8a, e, -⟩ := hua.open_
    subst e
    obtain ⟨A5b, c5b, A6b, c6b, A7b, c7b, A8b, c8b, e, -⟩ := hub.open_
    subst e
    obtain ⟨A5c, c5c, A6c, c6c, A7c, c7c, A8c, c8c, e, -⟩ := huc.open_
    subst e
    have B := Aside0.mk (below_alloc (below_alloc (below_alloc (Below.refl w.heap.size w) (.cells #[.int .i64 a.f0, .int .u64 a.f1, .int .u64 a.f2, .int .u64 a.f3, .int .u64 a.f4, .slice A5a a.f5.length c5a, .slice A6a a.f6.length c6a, .slice A7a a.f7.length c7a, .slice A8a a.f8.length c8a] 64)) (.cells #[.int .i64 b.f0, .int .u64 b.f1, .int .u64 b.f2, .int .u64 b.f3, .int .u64 b.f4, .slice A5b b.f5.length c5b, .slice A6b b.f6.length c6b, .slice A7b b.f7.length c7b, .slice A8b b.f8.length c8b] 64)) (.cells #[.int .i64 c.f0, .int .u64 c.f1, .int .u64 c.f2, .int .u64 c.f3, .int .u64 c.f4, .slice A5c c.f5.length c5c, .slice A6c c.f6.length c6c, .slice A7c c.f7.length c7c, .slice A8c c.f8.length c8c] 64))
    have X := Aside0.mk (((Blk.new w #[.int .i64 a.f0, .int .u64 a.f1, .int .u64 a.f2, .int .u64 a.f3, .int .u64 a.f4, .slice A5a a.f5.length c5a, .slice A6a a.f6.length c6a, .slice A7a a.f7.length c7a, .slice A8a a.f8.length c8a] 64).alloc (.cells #[.int .i64 b.f0, .int .u64 b.f1, .int .u64 b.f2, .int .u64 b.f3, .int .u64 b.f4, .slice A5b b.f5.length c5b, .slice A6b b.f6.length c6b, .slice A7b b.f7.length c7b, .slice A8b b.f8.length c8b] 64)).alloc (.cells #[.int .i64 c.f0, .int .u64 c.f1, .int .u64 c.f2, .int .u64 c.f3, .int .u64 c.f4, .slice A5c c.f5.length c5c, .slice A6c c.f6.length c6c, .slice A7c c.f7.length c7c, .slice A8c c.f8.length c8c] 64))
    have hx := fun i => X.out.cell i
    have Y := Aside0.mk ((show Blk ((w.alloc (.cells #[.int .i64 a.f0, .int .u64 a.f1, .int .u64 a.f2, .int .u64 a.f3, .int .u64 a.f4, .slice A5a a.f5.length c5a, .slice A6a a.f6.length c6a, .slice A7a a.f7.length c7a, .slice A8a a.f8.length c8a] 64)).alloc (.cells #[.int .i64 b.f0, .int .u64 b.f1, .int .u64 b.f2, .int .u64 b.f3, .int .u64 b.f4, .slice A5b b.f5.length c5b, .slice A6b b.f6.length c6b, .slice A7b b.f7.length c7b, .slice A8b b.f8.length c8b] 64)) (w.heap.size + 1) #[.int .i64 b.f0, .int .u64 b.f1, .int .u64 b.f2, .int .u64 b.f3, .int .u64 b.f4, .slice A5b b.f5.length c5b, .slice A6b b.f6.length c6b, .slice A7b b.f7.length c7b, .slice A8b b.f8.length c8b] 64 by have := Blk.new (w.alloc (.cells #[.int .i64 a.f0, .int .u64 a.f1, .int .u64 a.f2, .int .u64 a.f3, .int .u64 a.f4, .slice A5a a.f5.length c5a, .slice A6a a.f6.length c6a, .slice A7a a.f7.length c7a, .slice A8a a.f8.length c8a] 64)) #[.int .i64 b.f0, .int .u64 b.f1, .int .u64 b.f2, .int .u64 b.f3, .int .u64 b.f4, .slice A5b b.f5.length c5b, .slice A6b b.f6.length c6b, .slice A7b b.f7.length c7b, .slice A8b b.f8.length c8b] 64; simpa using this).alloc (.cells #[.int .i64 c.f0, .int .u64 c.f1, .int .u64 c.f2, .int .u64 c.f3, .int .u64 c.f4, .slice A5c c.f5.length c5c, .slice A6c c.f6.length c6c, .slice A7c c.f7.length c7c, .slice A8c c.f8.length c8c] 64))
    have hy := fun i => Y.out.cell i
    have Z := Aside0.mk (show Blk (((w.alloc (.cells #[.int .i64 a.f0, .int .u64 a.f1, .int .u64 a.f2, .int .u64 a.f3, .int .u64 a.f4, .slice A5a a.f5.length c5a, .slice A6a a.f6.length c6a, .slice A7a a.f7.length c7a, .slice A8a a.f8.length c8a] 64)).alloc (.cells #[.int .i64 b.f0, .int .u64 b.f1, .int .u64 b.f2, .int .u64 b.f3, .int .u64 b.f4, .slice A5b b.f5.length c5b, .slice A6b b.f6.length c6b, .slice A7b b.f7.length c7b, .slice A8b b.f8.length c8b] 64)).alloc (.cells #[.int .i64 c.f0, .int .u64 c.f1, .int .u64 c.f2, .int .u64 c.f3, .int .u64 c.f4, .slice A5c c.f5.length c5c, .slice A6c c.f6.length c6c, .slice A7c c.f7.length c7c, .slice A8c c.f8.length c8c] 64)) (w.heap.size + 1 + 1) #[.int .i64 c.f0, .int .u64 c.f1, .int .u64 c.f2, .int .u64 c.f3, .int .u64 c.f4, .slice A5c c.f5.length c5c, .slice A6c c.f6.length c6c, .slice A7c c.f7.length c7c, .slice A8c c.f8.length c8c] 64 by have := Blk.new ((w.alloc (.cells #[.int .i64 a.f0, .int .u64 a.f1, .int .u64 a.f2, .int .u64 a.f3, .int .u64 a.f4, .slice A5a a.f5.length c5a, .slice A6a a.f6.length c6a, .slice A7a a.f7.length c7a, .slice A8a a.f8.length c8a] 64)).alloc (.cells #[.int .i64 b.f0, .int .u64 b.f1, .int .u64 b.f2, .int .u64 b.f3, .int .u64 b.f4, .slice A5b b.f5.length c5b, .slice A6b b.f6.length c6b, .slice A7b b.f7.length c7b, .slice A8b b.f8.length c8b] 64)) #[.int .i64 c.f0, .int .u64 c.f1, .int .u64 c.f2, .int .u64 c.f3, .int .u64 c.f4, .slice A5c c.f5.length c5c, .slice A6c c.f6.length c6c, .slice A7c c.f7.length c7c, .slice A8c c.f8.length c8c] 64; simpa using this)
    have hz := fun i => Z.out.cell i
    have HA := Aside0.mk (hua.below B.out)
    have HB := Aside0.mk (hub.below B.out)
    have HC := Aside0.mk (huc.below B.out)
    clear hua hub huc
    go_enter Try.func11, Try.ntmps11
    go_wp2_with (first | (go_at_call 54; (with_reducible refine (CS.out _ _ HA.out).mono ?_); rintro e W1 ⟨rfl, hb⟩; replace B := Aside0.mk (below_then B.out B.out.size hb); replace HA := Aside0.mk (HA.out.below hb); replace HB := Aside0.mk (HB.out.below hb); replace HC := Aside0.mk (HC.out.below hb); replace X := Aside0.mk (X.out.below hb); replace hx := fun i => X.out.cell i; replace Y := Aside0.mk (Y.out.below hb); replace hy := fun i => Y.out.cell i; replace Z := Aside0.mk (Z.out.below hb); replace hz := fun i => Z.out.cell i; clear  hb) | (go_at_call 54; (with_reducible refine (CT.out _ _ HB.out).mono ?_); rintro e W2 ⟨rfl, hb⟩; replace B := Aside0.mk (below_then B.out B.out.size hb); replace HA := Aside0.mk (HA.out.below hb); replace HB := Aside0.mk (HB.out.below hb); replace HC := Aside0.mk (HC.out.below hb); replace X := Aside0.mk (X.out.below hb); replace hx := fun i => X.out.cell i; replace Y := Aside0.mk (Y.out.below hb); replace hy := fun i => Y.out.cell i; replace Z := Aside0.mk (Z.out.below hb); replace hz := fun i => Z.out.cell i; clear  hb) | (go_at_call 54; (with_reducible refine (CU.out _ _ HC.out).mono ?_); rintro e W3 ⟨rfl, hb⟩; replace B := Aside0.mk (below_then B.out B.out.size hb); replace HA := Aside0.mk (HA.out.below hb); replace HB := Aside0.mk (HB.out.below hb); replace HC := Aside0.mk (HC.out.below hb); replace X := Aside0.mk (X.out.below hb); replace hx := fun i => X.out.cell i; replace Y := Aside0.mk (Y.out.below hb); replace hy := fun i => Y.out.cell i; replace Z := Aside0.mk (Z.out.below hb); replace hz := fun i => Z.out.cell i; clear  hb) | (go_at_call 56; (with_reducible refine (K1.out _ _ _ HA.out HB.out).mono ?_); rintro e W4 ⟨rfl, hb⟩; replace B := Aside0.mk (below_then B.out B.out.size hb); replace HA := Aside0.mk (HA.out.below hb); replace HB := Aside0.mk (HB.out.below hb); replace HC := Aside0.mk (HC.out.below hb); replace X := Aside0.mk (X.out.below hb); replace hx := fun i => X.out.cell i; replace Y := Aside0.mk (Y.out.below hb); replace hy := fun i => Y.out.cell i; replace Z := Aside0.mk (Z.out.below hb); replace hz := fun i => Z.out.cell i; have hxa := fun i => (X.out.alloc (.cells #[.int .i64 v1, .int .i64 v2] 67)).cell i; have hya := fun i => (Y.out.alloc (.cells #[.int .i64 v1, .int .i64 v2] 67)).cell i; have hza := fun i => (Z.out.alloc (.cells #[.int .i64 v1, .int .i64 v2] 67)).cell i; clear  hb))
    (try clear hxa hya hza)
    have hal := below_alloc (Below.refl W4.heap.size W4) (.cells #[.int .i64 v1, .int .i64 v2] 67)
    replace B := Aside0.mk (below_then B.out B.out.size hal)
    replace HA := Aside0.mk (HA.out.below hal)
    replace HB := Aside0.mk (HB.out.below hal)
    replace HC := Aside0.mk (HC.out.below hal)
    replace X := Aside0.mk (X.out.alloc (.cells #[.int .i64 v1, .int .i64 v2] 67)); replace hx := fun i => X.out.cell i
    replace Y := Aside0.mk (Y.out.alloc (.cells #[.int .i64 v1, .int .i64 v2] 67)); replace hy := fun i => Y.out.cell i
    replace Z := Aside0.mk (Z.out.alloc (.cells #[.int .i64 v1, .int .i64 v2] 67)); replace hz := fun i => Z.out.cell i
    have P := Aside0.mk (Blk.new W4 #[.int .i64 v1, .int .i64 v2] 67); have hp := fun i => P.out.cell i; clear hal
    go_wp2_with (first | (go_at_call 56; (with_reducible refine (K2.out _ _ _ HB.out HC.out).mono ?_); rintro e W5 ⟨rfl, hb⟩; replace B := Aside0.mk (below_then B.out B.out.size hb); replace HA := Aside0.mk (HA.out.below hb); replace HB := Aside0.mk (HB.out.below hb); replace HC := Aside0.mk (HC.out.below hb); replace X := Aside0.mk (X.out.below hb); replace hx := fun i => X.out.cell i; replace Y := Aside0.mk (Y.out.below hb); replace hy := fun i => Y.out.cell i; replace Z := Aside0.mk (Z.out.below hb); replace hz := fun i => Z.out.cell i; replace P := Aside0.mk (P.out.below hb); replace hp := fun i => P.out.cell i; have hxa := fun i => (X.out.alloc (.cells #[.int .i64 w1, .int .i64 w2] 67)).cell i; have hya := fun i => (Y.out.alloc (.cells #[.int .i64 w1, .int .i64 w2] 67)).cell i; have hza := fun i => (Z.out.alloc (.cells #[.int .i64 w1, .int .i64 w2] 67)).cell i; have hpa := fun i => (P.out.alloc (.cells #[.int .i64 w1, .int .i64 w2] 67)).cell i; clear  hb))
    (try clear hxa hya hza hpa)
    have hal := below_alloc (Below.refl W5.heap.size W5) (.cells #[.int .i64 w1, .int .i64 w2] 67)
    replace B := Aside0.mk (below_then B.out B.out.size hal)
    replace HA := Aside0.mk (HA.out.below hal)
    replace HB := Aside0.mk (HB.out.below hal)
    replace HC := Aside0.mk (HC.out.below hal)
    replace X := Aside0.mk (X.out.alloc (.cells #[.int .i64 w1, .int .i64 w2] 67)); replace hx := fun i => X.out.cell i
    replace Y := Aside0.mk (Y.out.alloc (.cells #[.int .i64 w1, .int .i64 w2] 67)); replace hy := fun i => Y.out.cell i
    replace Z := Aside0.mk (Z.out.alloc (.cells #[.int .i64 w1, .int .i64 w2] 67)); replace hz := fun i => Z.out.cell i
    replace P := Aside0.mk (P.out.alloc (.cells #[.int .i64 w1, .int .i64 w2] 67)); replace hp := fun i => P.out.cell i
    have Q := Aside0.mk (Blk.new W5 #[.int .i64 w1, .int .i64 w2] 67); have hq := fun i => Q.out.cell i; clear hal
    go_wp2_with (first | (go_at_call 56; (with_reducible refine (K3.out _ _ _ HA.out HC.out).mono ?_); rintro e W6 ⟨rfl, hb⟩; replace B := Aside0.mk (below_then B.out B.out.size hb); replace HA := Aside0.mk (HA.out.below hb); replace HB := Aside0.mk (HB.out.below hb); replace HC := Aside0.mk (HC.out.below hb); replace X := Aside0.mk (X.out.below hb); replace hx := fun i => X.out.cell i; replace Y := Aside0.mk (Y.out.below hb); replace hy := fun i => Y.out.cell i; replace Z := Aside0.mk (Z.out.below hb); replace hz := fun i => Z.out.cell i; replace P := Aside0.mk (P.out.below hb); replace hp := fun i => P.out.cell i; replace Q := Aside0.mk (Q.out.below hb); replace hq := fun i => Q.out.cell i; have hxa := fun i => (X.out.alloc (.cells #[.int .i64 x1, .int .i64 x2] 67)).cell i; have hya := fun i => (Y.out.alloc (.cells #[.int .i64 x1, .int .i64 x2] 67)).cell i; have hza := fun i => (Z.out.alloc (.cells #[.int .i64 x1, .int .i64 x2] 67)).cell i; have hpa := fun i => (P.out.alloc (.cells #[.int .i64 x1, .int .i64 x2] 67)).cell i; have hqa := fun i => (Q.out.alloc (.cells #[.int .i64 x1, .int .i64 x2] 67)).cell i; clear  hb))
    (try clear hxa hya hza hpa hqa)
    have hal := below_alloc (Below.refl W6.heap.size W6) (.cells #[.int .i64 x1, .int .i64 x2] 67)
    replace B := Aside0.mk (below_then B.out B.out.size hal)
    replace HA := Aside0.mk (HA.out.below hal)
    replace HB := Aside0.mk (HB.out.below hal)
    replace HC := Aside0.mk (HC.out.below hal)
    replace X := Aside0.mk (X.out.alloc (.cells #[.int .i64 x1, .int .i64 x2] 67)); replace hx := fun i => X.out.cell i
    replace Y := Aside0.mk (Y.out.alloc (.cells #[.int .i64 x1, .int .i64 x2] 67)); replace hy := fun i => Y.out.cell i
    replace Z := Aside0.mk (Z.out.alloc (.cells #[.int .i64 x1, .int .i64 x2] 67)); replace hz := fun i => Z.out.cell i
    replace P := Aside0.mk (P.out.alloc (.cells #[.int .i64 x1, .int .i64 x2] 67)); replace hp := fun i => P.out.cell i
    replace Q := Aside0.mk (Q.out.alloc (.cells #[.int .i64 x1, .int .i64 x2] 67)); replace hq := fun i => Q.out.cell i
    have R := Aside0.mk (Blk.new W6 #[.int .i64 x1, .int .i64 x2] 67); have hr := fun i => R.out.cell i; clear hal
    go_wp2_with (first | (go_at_call 56; (with_reducible refine (K4.out _ _ _ HA.out HA.out).mono ?_); rintro e W7 ⟨rfl, hb⟩; replace B := Aside0.mk (below_then B.out B.out.size hb); replace HA := Aside0.mk (HA.out.below hb); replace HB := Aside0.mk (HB.out.below hb); replace HC := Aside0.mk (HC.out.below hb); replace X := Aside0.mk (X.out.below hb); replace hx := fun i => X.out.cell i; replace Y := Aside0.mk (Y.out.below hb); replace hy := fun i => Y.out.cell i; replace Z := Aside0.mk (Z.out.below hb); replace hz := fun i => Z.out.cell i; replace P := Aside0.mk (P.out.below hb); replace hp := fun i => P.out.cell i; replace Q := Aside0.mk (Q.out.below hb); replace hq := fun i => Q.out.cell i; replace R := Aside0.mk (R.out.below hb); replace hr := fun i => R.out.cell i; have hxa := fun i => (X.out.alloc (.cells #[.int .i64 0, .int .i64 0] 67)).cell i; have hya := fun i => (Y.out.alloc (.cells #[.int .i64 0, .int .i64 0] 67)).cell i; have hza := fun i => (Z.out.alloc (.cells #[.int .i64 0, .int .i64 0] 67)).cell i; have hpa := fun i => (P.out.alloc (.cells #[.int .i64 0, .int .i64 0] 67)).cell i; have hqa := fun i => (Q.out.alloc (.cells #[.int .i64 0, .int .i64 0] 67)).cell i; have hra := fun i => (R.out.alloc (.cells #[.int .i64 0, .int .i64 0] 67)).cell i; clear  hb))
    (try clear hxa hya hza hpa hqa hra)
    have hal := below_alloc (Below.refl W7.heap.size W7) (.cells #[.int .i64 0, .int .i64 0] 67)
    replace B := Aside0.mk (below_then B.out B.out.size hal)
    replace HA := Aside0.mk (HA.out.below hal)
    replace HB := Aside0.mk (HB.out.below hal)
    replace HC := Aside0.mk (HC.out.below hal)
    replace X := Aside0.mk (X.out.alloc (.cells #[.int .i64 0, .int .i64 0] 67)); replace hx := fun i => X.out.cell i
    replace Y := Aside0.mk (Y.out.alloc (.cells #[.int .i64 0, .int .i64 0] 67)); replace hy := fun i => Y.out.cell i
    replace Z := Aside0.mk (Z.out.alloc (.cells #[.int .i64 0, .int .i64 0] 67)); replace hz := fun i => Z.out.cell i
    replace P := Aside0.mk (P.out.alloc (.cells #[.int .i64 0, .int .i64 0] 67)); replace hp := fun i => P.out.cell i
    replace Q := Aside0.mk (Q.out.alloc (.cells #[.int .i64 0, .int .i64 0] 67)); replace hq := fun i => Q.out.cell i
    replace R := Aside0.mk (R.out.alloc (.cells #[.int .i64 0, .int .i64 0] 67)); replace hr := fun i => R.out.cell i
    have S := Aside0.mk (Blk.new W7 #[.int .i64 0, .int .i64 0] 67); have hs := fun i => S.out.cell i; clear hal
    go_wp2_with (first | (go_at_call 67; (with_reducible refine (CK.out _ _ HA.out).mono ?_); rintro e W8 ⟨rfl, hb⟩; replace B := Aside0.mk (below_then B.out B.out.size hb); replace HA := Aside0.mk (HA.out.below hb); replace HB := Aside0.mk (HB.out.below hb); replace HC := Aside0.mk (HC.out.below hb); replace X := Aside0.mk (X.out.below hb); replace hx := fun i => X.out.cell i; replace Y := Aside0.mk (Y.out.below hb); replace hy := fun i => Y.out.cell i; replace Z := Aside0.mk (Z.out.below hb); replace hz := fun i => Z.out.cell i; replace P := Aside0.mk (P.out.below hb); replace hp := fun i => P.out.cell i; replace Q := Aside0.mk (Q.out.below hb); replace hq := fun i => Q.out.cell i; replace R := Aside0.mk (R.out.below hb); replace hr := fun i => R.out.cell i; replace S := Aside0.mk (S.out.below hb); replace hs := fun i => S.out.cell i; clear  hb) | (go_at_call 55; (with_reducible refine (awake11_c _).mono ?_); rintro e W9 ⟨rfl, hb⟩; replace B := Aside0.mk (below_then B.out B.out.size hb); replace HA := Aside0.mk (HA.out.below hb); replace HB := Aside0.mk (HB.out.below hb); replace HC := Aside0.mk (HC.out.below hb); replace X := Aside0.mk (X.out.below hb); replace hx := fun i => X.out.cell i; replace Y := Aside0.mk (Y.out.below hb); replace hy := fun i => Y.out.cell i; replace Z := Aside0.mk (Z.out.below hb); replace hz := fun i => Z.out.cell i; replace P := Aside0.mk (P.out.below hb); replace hp := fun i => P.out.cell i; replace Q := Aside0.mk (Q.out.below hb); replace hq := fun i => Q.out.cell i; replace R := Aside0.mk (R.out.below hb); replace hr := fun i => R.out.cell i; replace S := Aside0.mk (S.out.below hb); replace hs := fun i => S.out.cell i; clear  hb))
    go_ret
    exact ⟨rfl, B.out⟩
  subst c2
  by_cases c3 : v1 = 0
  rotate_left
  · have d1 : (v1 != 0) = true := bne_iff_ne.2 c3
    clear c3 hg
    obtain ⟨A5a, c5a, A6a, c6a, A7a, c7a, A8a, c8a, e, -⟩ := hua.open_
    subst e
    obtain ⟨A5b, c5b, A6b, c6b, A7b, c7b, A8b, c8b, e, -⟩ := hub.open_
    subst e
    obtain ⟨A5c, c5c, A6c, c6c, A7c, c7c, A8c, c8c, e, -⟩ := huc.open_
    subst e
    have B := Aside0.mk (below_alloc (below_alloc (below_alloc (Below.refl w.heap.size w) (.cells #[.int .i64 a.f0, .int .u64 a.f1, .int .u64 a.f2, .int .u64 a.f3, .int .u64 a.f4, .slice A5a a.f5.length c5a, .slice A6a a.f6.length c6a, .slice A7a a.f7.length c7a, .slice A8a a.f8.length c8a] 64)) (.cells #[.int .i64 b.f0, .int .u64 b.f1, .int .u64 b.f2, .int .u64 b.f3, .int .u64 b.f4, .slice A5b b.f5.length c5b, .slice A6b b.f6.length c6b, .slice A7b b.f7.length c7b, .slice A8b b.f8.length c8b] 64)) (.cells #[.int .i64 c.f0, .int .u64 c.f1, .int .u64 c.f2, .int .u64 c.f3, .int .u64 c.f4, .slice A5c c.f5.length c5c, .slice A6c c.f6.length c6c, .slice A7c c.f7.length c7c, .slice A8c c.f8.length c8c] 64))
    have X := Aside0.mk (((Blk.new w #[.int .i64 a.f0, .int .u64 a.f1, .int .u64 a.f2, .int .u64 a.f3, .int .u64 a.f4, .slice A5a a.f5.length c5a, .slice A6a a.f6.length c6a, .slice A7a a.f7.length c7a, .slice A8a a.f8.length c8a] 64).alloc (.cells #[.int .i64 b.f0, .int .u64 b.f1, .int .u64 b.f2, .int .u64 b.f3, .int .u64 b.f4, .slice A5b b.f5.length c5b, .slice A6b b.f6.length c6b, .slice A7b b.f7.length c7b, .slice A8b b.f8.length c8b] 64)).alloc (.cells #[.int .i64 c.f0, .int .u64 c.f1, .int .u64 c.f2, .int .u64 c.f3, .int .u64 c.f4, .slice A5c c.f5.length c5c, .slice A6c c.f6.length c6c, .slice A7c c.f7.length c7c, .slice A8c c.f8.length c8c] 64))
    have hx := fun i => X.out.cell i
    have Y := Aside0.mk ((show Blk ((w.alloc (.cells #[.int .i64 a.f0, .int .u64 a.f1, .int .u64 a.f2, .int .u64 a.f3, .int .u64 a.f4, .slice A5a a.f5.length c5a, .slice A6a a.f6.length c6a, .slice A7a a.f7.length c7a, .slice A8a a.f8.length c8a] 64)).alloc (.cells #[.int .i64 b.f0, .int .u64 b.f1, .int .u64 b.f2, .int .u64 b.f3, .int .u64 b.f4, .slice A5b b.f5.length c5b, .slice A6b b.f6.length c6b, .slice A7b b.f7.length c7b, .slice A8b b.f8.length c8b] 64)) (w.heap.size + 1) #[.int .i64 b.f0, .int .u64 b.f1, .int .u64 b.f2, .int .u64 b.f3, .int .u64 b.f4, .slice A5b b.f5.length c5b, .slice A6b b.f6.length c6b, .slice A7b b.f7.length c7b, .slice A8b b.f8.length c8b] 64 by have := Blk.new (w.alloc (.cells #[.int .i64 a.f0, .int .u64 a.f1, .int .u64 a.f2, .int .u64 a.f3, .int .u64 a.f4, .slice A5a a.f5.length c5a, .slice A6a a.f6.length c6a, .slice A7a a.f7.length c7a, .slice A8a a.f8.length c8a] 64)) #[.int .i64 b.f0, .int .u64 b.f1, .int .u64 b.f2, .int .u64 b.f3, .int .u64 b.f4, .slice A5b b.f5.length c5b, .slice A6b b.f6.length c6b, .slice A7b b.f7.length c7b, .slice A8b b.f8.length c8b] 64; simpa using this).alloc (.cells #[.int .i64 c.f0, .int .u64 c.f1, .int .u64 c.f2, .int .u64 c.f3, .int .u64 c.f4, .slice A5c c.f5.length c5c, .slice A6c c.f6.length c6c, .slice A7c c.f7.length c7c, .slice A8c c.f8.length c8c] 64))
    have hy := fun i => Y.out.cell i
    have Z := Aside0.mk (show Blk (((w.alloc (.cells #[.int .i64 a.f0, .int .u64 a.f1, .int .u64 a.f2, .int .u64 a.f3, .int .u64 a.f4, .slice A5a a.f5.length c5a, .slice A6a a.f6.length c6a, .slice A7a a.f7.length c7a, .slice A8a a.f8.length c8a] 64)).alloc (.cells #[.int .i64 b.f0, .int .u64 b.f1, .int .u64 b.f2, .int .u64 b.f3, .int .u64 b.f4, .slice A5b b.f5.length c5b, .slice A6b b.f6.length c6b, .slice A7b b.f7.length c7b, .slice A8b b.f8.length c8b] 64)).alloc (.cells #[.int .i64 c.f0, .int .u64 c.f1, .int .u64 c.f2, .int .u64 c.f3, .int .u64 c.f4, .slice A5c c.f5.length c5c, .slice A6c c.f6.length c6c, .slice A7c c.f7.length c7c, .slice A8c c.f8.length c8c] 64)) (w.heap.size + 1 + 1) #[.int .i64 c.f0, .int .u64 c.f1, .int .u64 c.f2, .int .u64 c.f3, .int .u64 c.f4, .slice A5c c.f5.length c5c, .slice A6c c.f6.length c6c, .slice A7c c.f7.length c7c, .slice A8c c.f8.length c8c] 64 by have := Blk.new ((w.alloc (.cells #[.int .i64 a.f0, .int .u64 a.f1, .int .u64 a.f2, .int .u64 a.f3, .int .u64 a.f4, .slice A5a a.f5.length c5a, .slice A6a a.f6.length c6a, .slice A7a a.f7.length c7a, .slice A8a a.f8.length c8a] 64)).alloc (.cells #[.int .i64 b.f0, .int .u64 b.f1, .int .u64 b.f2, .int .u64 b.f3, .int .u64 b.f4, .slice A5b b.f5.length c5b, .slice A6b b.f6.length c6b, .slice A7b b.f7.length c7b, .slice A8b b.f8.length c8b] 64)) #[.int .i64 c.f0, .int .u64 c.f1, .int .u64 c.f2, .int .u64 c.f3, .int .u64 c.f4, .slice A5c c.f5.length c5c, .slice A6c c.f6.length c6c, .slice A7c c.f7.length c7c, .slice A8c c.f8.length c8c] 64; simpa using this)
    have hz := fun i => Z.out.cell i
    have HA := Aside0.mk (hua.below B.out)
    have HB := Aside0.mk (hub.below B.out)
    have HC := Aside0.mk (huc.below B.out)
    clear hua hub huc
    go_enter Try.func11, Try.ntmps11
    go_wp2_with (first | (go_at_call 54; (with_reducible refine (CS.out _ _ HA.out).mono ?_); rintro e W1 ⟨rfl, hb⟩; replace B := Aside0.mk (below_then B.out B.out.size hb); replace HA := Aside0.mk (HA.out.below hb); replace HB := Aside0.mk (HB.out.below hb); replace HC := Aside0.mk (HC.out.below hb); replace X := Aside0.mk (X.out.below hb); replace hx := fun i => X.out.cell i; replace Y := Aside0.mk (Y.out.below hb); replace hy := fun i => Y.out.cell i; replace Z := Aside0.mk (Z.out.below hb); replace hz := fun i => Z.out.cell i; clear  hb) | (go_at_call 54; (with_reducible refine (CT.out _ _ HB.out).mono ?_); rintro e W2 ⟨rfl, hb⟩; replace B := Aside0.mk (below_then B.out B.out.size hb); replace HA := Aside0.mk (HA.out.below hb); replace HB := Aside0.mk (HB.out.below hb); replace HC := Aside0.mk (HC.out.below hb); replace X := Aside0.mk (X.out.below hb); replace hx := fun i => X.out.cell i; replace Y := Aside0.mk (Y.out.below hb); replace hy := fun i => Y.out.cell i; replace Z := Aside0.mk (Z.out.below hb); replace hz := fun i => Z.out.cell i; clear  hb) | (go_at_call 54; (with_reducible refine (CU.out _ _ HC.out).mono ?_); rintro e W3 ⟨rfl, hb⟩; replace B := Aside0.mk (below_then B.out B.out.size hb); replace HA := Aside0.mk (HA.out.below hb); replace HB := Aside0.mk (HB.out.below hb); replace HC := Aside0.mk (HC.out.below hb); replace X := Aside0.mk (X.out.below hb); replace hx := fun i => X.out.cell i; replace Y := Aside0.mk (Y.out.below hb); replace hy := fun i => Y.out.cell i; replace Z := Aside0.mk (Z.out.below hb); replace hz := fun i => Z.out.cell i; clear  hb) | (go_at_call 56; (with_reducible refine (K1.out _ _ _ HA.out HB.out).mono ?_); rintro e W4 ⟨rfl, hb⟩; replace B := Aside0.mk (below_then B.out B.out.size hb); replace HA := Aside0.mk (HA.out.below hb); replace HB := Aside0.mk (HB.out.below hb); replace HC := Aside0.mk (HC.out.below hb); replace X := Aside0.mk (X.out.below hb); replace hx := fun i => X.out.cell i; replace Y := Aside0.mk (Y.out.below hb); replace hy := fun i => Y.out.cell i; replace Z := Aside0.mk (Z.out.below hb); replace hz := fun i => Z.out.cell i; have hxa := fun i => (X.out.alloc (.cells #[.int .i64 v1, .int .i64 v2] 67)).cell i; have hya := fun i => (Y.out.alloc (.cells #[.int .i64 v1, .int .i64 v2] 67)).cell i; have hza := fun i => (Z.out.alloc (.cells #[.int .i64 v1, .int .i64 v2] 67)).cell i; clear  hb))
    (try clear hxa hya hza)
    have hal := below_alloc (Below.refl W4.heap.size W4) (.cells #[.int .i64 v1, .int .i64 v2] 67)
    replace B := Aside0.mk (below_then B.out B.out.size hal)
    replace HA := Aside0.mk (HA.out.below hal)
    replace HB := Aside0.mk (HB.out.below hal)
    replace HC := Aside0.mk (HC.out.below hal)
    replace X := Aside0.mk (X.out.alloc (.cells #[.int .i64 v1, .int .i64 v2] 67)); replace hx := fun i => X.out.cell i
    replace Y := Aside0.mk (Y.out.alloc (.cells #[.int .i64 v1, .int .i64 v2] 67)); replace hy := fun i => Y.out.cell i
    replace Z := Aside0.mk (Z.out.alloc (.cells #[.int .i64 v1, .int .i64 v2] 67)); replace hz := fun i => Z.out.cell i
    have P := Aside0.mk (Blk.new W4 #[.int .i64 v1, .int .i64 v2] 67); have hp := fun i => P.out.cell i; clear hal
    go_wp2_with (first | (go_at_call 56; (with_reducible refine (K2.out _ _ _ HB.out HC.out).mono ?_); rintro e W5 ⟨rfl, hb⟩; replace B := Aside0.mk (below_then B.out B.out.size hb); replace HA := Aside0.mk (HA.out.below hb); replace HB := Aside0.mk (HB.out.below hb); replace HC := Aside0.mk (HC.out.below hb); replace X := Aside0.mk (X.out.below hb); replace hx := fun i => X.out.cell i; replace Y := Aside0.mk (Y.out.below hb); replace hy := fun i => Y.out.cell i; replace Z := Aside0.mk (Z.out.below hb); replace hz := fun i => Z.out.cell i; replace P := Aside0.mk (P.out.below hb); replace hp := fun i => P.out.cell i; have hxa := fun i => (X.out.alloc (.cells #[.int .i64 w1, .int .i64 w2] 67)).cell i; have hya := fun i => (Y.out.alloc (.cells #[.int .i64 w1, .int .i64 w2] 67)).cell i; have hza := fun i => (Z.out.alloc (.cells #[.int .i64 w1, .int .i64 w2] 67)).cell i; have hpa := fun i => (P.out.alloc (.cells #[.int .i64 w1, .int .i64 w2] 67)).cell i; clear  hb))
    (try clear hxa hya hza hpa)
    have hal := below_alloc (Below.refl W5.heap.size W5) (.cells #[.int .i64 w1, .int .i64 w2] 67)
    replace B := Aside0.mk (below_then B.out B.out.size hal)
    replace HA := Aside0.mk (HA.out.below hal)
    replace HB := Aside0.mk (HB.out.below hal)
    replace HC := Aside0.mk (HC.out.below hal)
    replace X := Aside0.mk (X.out.alloc (.cells #[.int .i64 w1, .int .i64 w2] 67)); replace hx := fun i => X.out.cell i
    replace Y := Aside0.mk (Y.out.alloc (.cells #[.int .i64 w1, .int .i64 w2] 67)); replace hy := fun i => Y.out.cell i
    replace Z := Aside0.mk (Z.out.alloc (.cells #[.int .i64 w1, .int .i64 w2] 67)); replace hz := fun i => Z.out.cell i
    replace P := Aside0.mk (P.out.alloc (.cells #[.int .i64 w1, .int .i64 w2] 67)); replace hp := fun i => P.out.cell i
    have Q := Aside0.mk (Blk.new W5 #[.int .i64 w1, .int .i64 w2] 67); have hq := fun i => Q.out.cell i; clear hal
    go_wp2_with (first | (go_at_call 56; (with_reducible refine (K3.out _ _ _ HA.out HC.out).mono ?_); rintro e W6 ⟨rfl, hb⟩; replace B := Aside0.mk (below_then B.out B.out.size hb); replace HA := Aside0.mk (HA.out.below hb); replace HB := Aside0.mk (HB.out.below hb); replace HC := Aside0.mk (HC.out.below hb); replace X := Aside0.mk (X.out.below hb); replace hx := fun i => X.out.cell i; replace Y := Aside0.mk (Y.out.below hb); replace hy := fun i => Y.out.cell i; replace Z := Aside0.mk (Z.out.below hb); replace hz := fun i => Z.out.cell i; replace P := Aside0.mk (P.out.below hb); replace hp := fun i => P.out.cell i; replace Q := Aside0.mk (Q.out.below hb); replace hq := fun i => Q.out.cell i; have hxa := fun i => (X.out.alloc (.cells #[.int .i64 x1, .int .i64 x2] 67)).cell i; have hya := fun i => (Y.out.alloc (.cells #[.int .i64 x1, .int .i64 x2] 67)).cell i; have hza := fun i => (Z.out.alloc (.cells #[.int .i64 x1, .int .i64 x2] 67)).cell i; have hpa := fun i => (P.out.alloc (.cells #[.int .i64 x1, .int .i64 x2] 67)).cell i; have hqa := fun i => (Q.out.alloc (.cells #[.int .i64 x1, .int .i64 x2] 67)).cell i; clear  hb))
    (try clear hxa hya hza hpa hqa)
    have hal := below_alloc (Below.refl W6.heap.size W6) (.cells #[.int .i64 x1, .int .i64 x2] 67)
    replace B := Aside0.mk (below_then B.out B.out.size hal)
    replace HA := Aside0.mk (HA.out.below hal)
    replace HB := Aside0.mk (HB.out.below hal)
    replace HC := Aside0.mk (HC.out.below hal)
    replace X := Aside0.mk (X.out.alloc (.cells #[.int .i64 x1, .int .i64 x2] 67)); replace hx := fun i => X.out.cell i
    replace Y := Aside0.mk (Y.out.alloc (.cells #[.int .i64 x1, .int .i64 x2] 67)); replace hy := fun i => Y.out.cell i
    replace Z := Aside0.mk (Z.out.alloc (.cells #[.int .i64 x1, .int .i64 x2] 67)); replace hz := fun i => Z.out.cell i
    replace P := Aside0.mk (P.out.alloc (.cells #[.int .i64 x1, .int .i64 x2] 67)); replace hp := fun i => P.out.cell i
    replace Q := Aside0.mk (Q.out.alloc (.cells #[.int .i64 x1, .int .i64 x2] 67)); replace hq := fun i => Q.out.cell i
    have R := Aside0.mk (Blk.new W6 #[.int .i64 x1, .int .i64 x2] 67); have hr := fun i => R.out.cell i; clear hal
    go_wp2_with (first | (go_at_call 56; (with_reducible refine (K4.out _ _ _ HA.out HA.out).mono ?_); rintro e W7 ⟨rfl, hb⟩; replace B := Aside0.mk (below_then B.out B.out.size hb); replace HA := Aside0.mk (HA.out.below hb); replace HB := Aside0.mk (HB.out.below hb); replace HC := Aside0.mk (HC.out.below hb); replace X := Aside0.mk (X.out.below hb); replace hx := fun i => X.out.cell i; replace Y := Aside0.mk (Y.out.below hb); replace hy := fun i => Y.out.cell i; replace Z := Aside0.mk (Z.out.below hb); replace hz := fun i => Z.out.cell i; replace P := Aside0.mk (P.out.below hb); replace hp := fun i => P.out.cell i; replace Q := Aside0.mk (Q.out.below hb); replace hq := fun i => Q.out.cell i; replace R := Aside0.mk (R.out.below hb); replace hr := fun i => R.out.cell i; have hxa := fun i => (X.out.alloc (.cells #[.int .i64 0, .int .i64 0] 67)).cell i; have hya := fun i => (Y.out.alloc (.cells #[.int .i64 0, .int .i64 0] 67)).cell i; have hza := fun i => (Z.out.alloc (.cells #[.int .i64 0, .int .i64 0] 67)).cell i; have hpa := fun i => (P.out.alloc (.cells #[.int .i64 0, .int .i64 0] 67)).cell i; have hqa := fun i => (Q.out.alloc (.cells #[.int .i64 0, .int .i64 0] 67)).cell i; have hra := fun i => (R.out.alloc (.cells #[.int .i64 0, .int .i64 0] 67)).cell i; clear  hb))
    (try clear hxa hya hza hpa hqa hra)
    have hal := below_alloc (Below.refl W7.heap.size W7) (.cells #[.int .i64 0, .int .i64 0] 67)
    replace B := Aside0.mk (below_then B.out B.out.size hal)
    replace HA := Aside0.mk (HA.out.below hal)
    replace HB := Aside0.mk (HB.out.below hal)
    replace HC := Aside0.mk (HC.out.below hal)
    replace X := Aside0.mk (X.out.alloc (.cells #[.int .i64 0, .int .i64 0] 67)); replace hx := fun i => X.out.cell i
    replace Y := Aside0.mk (Y.out.alloc (.cells #[.int .i64 0, .int .i64 0] 67)); replace hy := fun i => Y.out.cell i
    replace Z := Aside0.mk (Z.out.alloc (.cells #[.int .i64 0, .int .i64 0] 67)); replace hz := fun i => Z.out.cell i
    replace P := Aside0.mk (P.out.alloc (.cells #[.int .i64 0, .int .i64 0] 67)); replace hp := fun i => P.out.cell i
    replace Q := Aside0.mk (Q.out.alloc (.cells #[.int .i64 0, .int .i64 0] 67)); replace hq := fun i => Q.out.cell i
    replace R := Aside0.mk (R.out.alloc (.cells #[.int .i64 0, .int .i64 0] 67)); replace hr := fun i => R.out.cell i
    have S := Aside0.mk (Blk.new W7 #[.int .i64 0, .int .i64 0] 67); have hs := fun i => S.out.cell i; clear hal
    go_wp2_with (first | (go_at_call 67; (with_reducible refine (CK.out _ _ HA.out).mono ?_); rintro e W8 ⟨rfl, hb⟩; replace B := Aside0.mk (below_then B.out B.out.size hb); replace HA := Aside0.mk (HA.out.below hb); replace HB := Aside0.mk (HB.out.below hb); replace HC := Aside0.mk (HC.out.below hb); replace X := Aside0.mk (X.out.below hb); replace hx := fun i => X.out.cell i; replace Y := Aside0.mk (Y.out.below hb); replace hy := fun i => Y.out.cell i; replace Z := Aside0.mk (Z.out.below hb); replace hz := fun i => Z.out.cell i; replace P := Aside0.mk (P.out.below hb); replace hp := fun i => P.out.cell i; replace Q := Aside0.mk (Q.out.below hb); replace hq := fun i => Q.out.cell i; replace R := Aside0.mk (R.out.below hb); replace hr := fun i => R.out.cell i; replace S := Aside0.mk (S.out.below hb); replace hs := fun i => S.out.cell i; clear  hb) | (go_at_call 55; (with_reducible refine (awake11_c _).mono ?_); rintro e W9 ⟨rfl, hb⟩; replace B := Aside0.mk (below_then B.out B.out.size hb); replace HA := Aside0.mk (HA.out.below hb); replace HB := Aside0.mk (HB.out.below hb); replace HC := Aside0.mk (HC.out.below hb); replace X := Aside0.mk (X.out.below hb); replace hx := fun i => X.out.cell i; replace Y := Aside0.mk (Y.out.below hb); replace hy := fun i => Y.out.cell i; replace Z := Aside0.mk (Z.out.below hb); replace hz := fun i => Z.out.cell i; replace P := Aside0.mk (P.out.below hb); replace hp := fun i => P.out.cell i; replace Q := Aside0.mk (Q.out.below hb); replace hq := fun i => Q.out.cell i; replace R := Aside0.mk (R.out.below hb); replace hr := fun i => R.out.cell i; replace S := Aside0.mk (S.out.below hb); replace hs := fun i => S.out.cell i; clear  hb))
    go_ret
    exact ⟨rfl, B.out⟩
  have d3 : (v1 != 0) = false := by rw [c3]; rfl
  by_cases c4 : w1 = 0
  rotate_left
  · have d1 : (w1 != 0) = true := bne_iff_ne.2 c4
    clear c3 c4 hg
    obtain ⟨A5a, c5a, A6a, c6a, A7a, c7a, A8a, c8a, e, -⟩ := hua.open_
    subst e
    obtain ⟨A5b, c5b, A6b, c6b, A7b, c7b, A8b, c8b, e, -⟩ := hub.open_
    subst e
    obtain ⟨A5c, c5c, A6c, c6c, A7c, c7c, A8c, c8c, e, -⟩ := huc.open_
    subst e
    have B := Aside0.mk (below_alloc (below_alloc (below_alloc (Below.refl w.heap.size w) (.cells #[.int .i64 a.f0, .int .u64 a.f1, .int .u64 a.f2, .int .u64 a.f3, .int .u64 a.f4, .slice A5a a.f5.length c5a, .slice A6a a.f6.length c6a, .slice A7a a.f7.length c7a, .slice A8a a.f8.length c8a] 64)) (.cells #[.int .i64 b.f0, .int .u64 b.f1, .int .u64 b.f2, .int .u64 b.f3, .int .u64 b.f4, .slice A5b b.f5.length c5b, .slice A6b b.f6.length c6b, .slice A7b b.f7.length c7b, .slice A8b b.f8.length c8b] 64)) (.cells #[.int .i64 c.f0, .int .u64 c.f1, .int .u64 c.f2, .int .u64 c.f3, .int .u64 c.f4, .slice A5c c.f5.length c5c, .slice A6c c.f6.length c6c, .slice A7c c.f7.length c7c, .slice A8c c.f8.length c8c] 64))
    have X := Aside0.mk (((Blk.new w #[.int .i64 a.f0, .int .u64 a.f1, .int .u64 a.f2, .int .u64 a.f3, .int .u64 a.f4, .slice A5a a.f5.length c5a, .slice A6a a.f6.length c6a, .slice A7a a.f7.length c7a, .slice A8a a.f8.length c8a] 64).alloc (.cells #[.int .i64 b.f0, .int .u64 b.f1, .int .u64 b.f2, .int .u64 b.f3, .int .u64 b.f4, .slice A5b b.f5.length c5b, .slice A6b b.f6.length c6b, .slice A7b b.f7.length c7b, .slice A8b b.f8.length c8b] 64)).alloc (.cells #[.int .i64 c.f0, .int .u64 c.f1, .int .u64 c.f2, .int .u64 c.f3, .int .u64 c.f4, .slice A5c c.f5.length c5c, .slice A6c c.f6.length c6c, .slice A7c c.f7.length c7c, .slice A8c c.f8.length c8c] 64))
    have hx := fun i => X.out.cell i
    have Y := Aside0.mk ((show Blk ((w.alloc (.cells #[.int .i64 a.f0, .int .u64 a.f1, .int .u64 a.f2, .int .u64 a.f3, .int .u64 a.f4, .slice A5a a.f5.length c5a, .slice A6a a.f6.length c6a, .slice A7a a.f7.length c7a, .slice A8a a.f8.length c8a] 64)).alloc (.cells #[.int .i64 b.f0, .int .u64 b.f1, .int .u64 b.f2, .int .u64 b.f3, .int .u64 b.f4, .slice A5b b.f5.length c5b, .slice A6b b.f6.length c6b, .slice A7b b.f7.length c7b, .slice A8b b.f8.length c8b] 64)) (w.heap.size + 1) #[.int .i64 b.f0, .int .u64 b.f1, .int .u64 b.f2, .int .u64 b.f3, .int .u64 b.f4, .slice A5b b.f5.length c5b, .slice A6b b.f6.length c6b, .slice A7b b.f7.length c7b, .slice A8b b.f8.length c8b] 64 by have := Blk.new (w.alloc (.cells #[.int .i64 a.f0, .int .u64 a.f1, .int .u64 a.f2, .int .u64 a.f3, .int .u64 a.f4, .slice A5a a.f5.length c5a, .slice A6a a.f6.length c6a, .slice A7a a.f7.length c7a, .slice A8a a.f8.length c8a] 64)) #[.int .i64 b.f0, .int .u64 b.f1, .int .u64 b.f2, .int .u64 b.f3, .int .u64 b.f4, .slice A5b b.f5.length c5b, .slice A6b b.f6.length c6b, .slice A7b b.f7.length c7b, .slice A8b b.f8.length c8b] 64; simpa using this).alloc (.cells #[.int .i64 c.f0, .int .u64 c.f1, .int .u64 c.f2, .int .u64 c.f3, .int .u64 c.f4, .slice A5c c.f5.length c5c, .slice A6c c.f6.length c6c, .slice A7c c.f7.length c7c, .slice A8c c.f8.length c8c] 64))
    have hy := fun i => Y.out.cell i
    have Z := Aside0.mk (show Blk (((w.alloc (.cells #[.int .i64 a.f0, .int .u64 a.f1, .int .u64 a.f2, .int .u64 a.f3, .int .u64 a.f4, .slice A5a a.f5.length c5a, .slice A6a a.f6.length c6a, .slice A7a a.f7.length c7a, .slice A8a a.f8.length c8a] 64)).alloc (.cells #[.int .i64 b.f0, .int .u64 b.f1, .int .u64 b.f2, .int .u64 b.f3, .int .u64 b.f4, .slice A5b b.f5.length c5b, .slice A6b b.f6.length c6b, .slice A7b b.f7.length c7b, .slice A8b b.f8.length c8b] 64)).alloc (.cells #[.int .i64 c.f0, .int .u64 c.f1, .int .u64 c.f2, .int .u64 c.f3, .int .u64 c.f4, .slice A5c c.f5.length c5c, .slice A6c c.f6.length c6c, .slice A7c c.f7.length c7c, .slice A8c c.f8.length c8c] 64)) (w.heap.size + 1 + 1) #[.int .i64 c.f0, .int .u64 c.f1, .int .u64 c.f2, .int .u64 c.f3, .int .u64 c.f4, .slice A5c c.f5.length c5c, .slice A6c c.f6.length c6c, .slice A7c c.f7.length c7c, .slice A8c c.f8.length c8c] 64 by have := Blk.new ((w.alloc (.cells #[.int .i64 a.f0, .int .u64 a.f1, .int .u64 a.f2, .int .u64 a.f3, .int .u64 a.f4, .slice A5a a.f5.length c5a, .slice A6a a.f6.length c6a, .slice A7a a.f7.length c7a, .slice A8a a.f8.length c8a] 64)).alloc (.cells #[.int .i64 b.f0, .int .u64 b.f1, .int .u64 b.f2, .int .u64 b.f3, .int .u64 b.f4, .slice A5b b.f5.length c5b, .slice A6b b.f6.length c6b, .slice A7b b.f7.length c7b, .slice A8b b.f8.length c8b] 64)) #[.int .i64 c.f0, .int .u64 c.f1, .int .u64 c.f2, .int .u64 c.f3, .int .u64 c.f4, .slice A5c c.f5.length c5c, .slice A6c c.f6.length c6c, .slice A7c c.f7.length c7c, .slice A8c c.f8.length c8c] 64; simpa using this)
    have hz := fun i => Z.out.cell i
    have HA := Aside0.mk (hua.below B.out)
    have HB := Aside0.mk (hub.below B.out)
    have HC := Aside0.mk (huc.below B.out)
    clear hua hub huc
    go_enter Try.func11, Try.ntmps11
    go_wp2_with (first | (go_at_call 54; (with_reducible refine (CS.out _ _ HA.out).mono ?_); rintro e W1 ⟨rfl, hb⟩; replace B := Aside0.mk (below_then B.out B.out.size hb); replace HA := Aside0.mk (HA.out.below hb); replace HB := Aside0.mk (HB.out.below hb); replace HC := Aside0.mk (HC.out.below hb); replace X := Aside0.mk (X.out.below hb); replace hx := fun i => X.out.cell i; replace Y := Aside0.mk (Y.out.below hb); replace hy := fun i => Y.out.cell i; replace Z := Aside0.mk (Z.out.below hb); replace hz := fun i => Z.out.cell i; clear  hb) | (go_at_call 54; (with_reducible refine (CT.out _ _ HB.out).mono ?_); rintro e W2 ⟨rfl, hb⟩; replace B := Aside0.mk (below_then B.out B.out.size hb); replace HA := Aside0.mk (HA.out.below hb); replace HB := Aside0.mk (HB.out.below hb); replace HC := Aside0.mk (HC.out.below hb); replace X := Aside0.mk (X.out.below hb); replace hx := fun i => X.out.cell i; replace Y := Aside0.mk (Y.out.below hb); replace hy := fun i => Y.out.cell i; replace Z := Aside0.mk (Z.out.below hb); replace hz := fun i => Z.out.cell i; clear  hb) | (go_at_call 54; (with_reducible refine (CU.out _ _ HC.out).mono ?_); rintro e W3 ⟨rfl, hb⟩; replace B := Aside0.mk (below_then B.out B.out.size hb); replace HA := Aside0.mk (HA.out.below hb); replace HB := Aside0.mk (HB.out.below hb); replace HC := Aside0.mk (HC.out.below hb); replace X := Aside0.mk (X.out.below hb); replace hx := fun i => X.out.cell i; replace Y := Aside0.mk (Y.out.below hb); replace hy := fun i => Y.out.cell i; replace Z := Aside0.mk (Z.out.below hb); replace hz := fun i => Z.out.cell i; clear  hb) | (go_at_call 56; (with_reducible refine (K1.out _ _ _ HA.out HB.out).mono ?_); rintro e W4 ⟨rfl, hb⟩; replace B := Aside0.mk (below_then B.out B.out.size hb); replace HA := Aside0.mk (HA.out.below hb); replace HB := Aside0.mk (HB.out.below hb); replace HC := Aside0.mk (HC.out.below hb); replace X := Aside0.mk (X.out.below hb); replace hx := fun i => X.out.cell i; replace Y := Aside0.mk (Y.out.below hb); replace hy := fun i => Y.out.cell i; replace Z := Aside0.mk (Z.out.below hb); replace hz := fun i => Z.out.cell i; have hxa := fun i => (X.out.alloc (.cells #[.int .i64 v1, .int .i64 v2] 67)).cell i; have hya := fun i => (Y.out.alloc (.cells #[.int .i64 v1, .int .i64 v2] 67)).cell i; have hza := fun i => (Z.out.alloc (.cells #[.int .i64 v1, .int .i64 v2] 67)).cell i; clear  hb))
    (try clear hxa hya hza)
    have hal := below_alloc (Below.refl W4.heap.size W4) (.cells #[.int .i64 v1, .int .i64 v2] 67)
    replace B := Aside0.mk (below_then B.out B.out.size hal)
    replace HA := Aside0.mk (HA.out.below hal)
    replace HB := Aside0.mk (HB.out.below hal)
    replace HC := Aside0.mk (HC.out.below hal)
    replace X := Aside0.mk (X.out.alloc (.cells #[.int .i64 v1, .int .i64 v2] 67)); replace hx := fun i => X.out.cell i
    replace Y := Aside0.mk (Y.out.alloc (.cells #[.int .i64 v1, .int .i64 v2] 67)); replace hy := fun i => Y.out.cell i
    replace Z := Aside0.mk (Z.out.alloc (.cells #[.int .i64 v1, .int .i64 v2] 67)); replace hz := fun i => Z.out.cell i
    have P := Aside0.mk (Blk.new W4 #[.int .i64 v1, .int .i64 v2] 67); have hp := fun i => P.out.cell i; clear hal
    go_wp2_with (first | (go_at_call 56; (with_reducible refine (K2.out _ _ _ HB.out HC.out).mono ?_); rintro e W5 ⟨rfl, hb⟩; replace B := Aside0.mk (below_then B.out B.out.size hb); replace HA := Aside0.mk (HA.out.below hb); replace HB := Aside0.mk (HB.out.below hb); replace HC := Aside0.mk (HC.out.below hb); replace X := Aside0.mk (X.out.below hb); replace hx := fun i => X.out.cell i; replace Y := Aside0.mk (Y.out.below hb); replace hy := fun i => Y.out.cell i; replace Z := Aside0.mk (Z.out.below hb); replace hz := fun i => Z.out.cell i; replace P := Aside0.mk (P.out.below hb); replace hp := fun i => P.out.cell i; have hxa := fun i => (X.out.alloc (.cells #[.int .i64 w1, .int .i64 w2] 67)).cell i; have hya := fun i => (Y.out.alloc (.cells #[.int .i64 w1, .int .i64 w2] 67)).cell i; have hza := fun i => (Z.out.alloc (.cells #[.int .i64 w1, .int .i64 w2] 67)).cell i; have hpa := fun i => (P.out.alloc (.cells #[.int .i64 w1, .int .i64 w2] 67)).cell i; clear  hb))
    (try clear hxa hya hza hpa)
    have hal := below_alloc (Below.refl W5.heap.size W5) (.cells #[.int .i64 w1, .int .i64 w2] 67)
    replace B := Aside0.mk (below_then B.out B.out.size hal)
    replace HA := Aside0.mk (HA.out.below hal)
    replace HB := Aside0.mk (HB.out.below hal)
    replace HC := Aside0.mk (HC.out.below hal)
    replace X := Aside0.mk (X.out.alloc (.cells #[.int .i64 w1, .int .i64 w2] 67)); replace hx := fun i => X.out.cell i
    replace Y := Aside0.mk (Y.out.alloc (.cells #[.int .i64 w1, .int .i64 w2] 67)); replace hy := fun i => Y.out.cell i
    replace Z := Aside0.mk (Z.out.alloc (.cells #[.int .i64 w1, .int .i64 w2] 67)); replace hz := fun i => Z.out.cell i
    replace P := Aside0.mk (P.out.alloc (.cells #[.int .i64 w1, .int .i64 w2] 67)); replace hp := fun i => P.out.cell i
    have Q := Aside0.mk (Blk.new W5 #[.int .i64 w1, .int .i64 w2] 67); have hq := fun i => Q.out.cell i; clear hal
    go_wp2_with (first | (go_at_call 56; (with_reducible refine (K3.out _ _ _ HA.out HC.out).mono ?_); rintro e W6 ⟨rfl, hb⟩; replace B := Aside0.mk (below_then B.out B.out.size hb); replace HA := Aside0.mk (HA.out.below hb); replace HB := Aside0.mk (HB.out.below hb); replace HC := Aside0.mk (HC.out.below hb); replace X := Aside0.mk (X.out.below hb); replace hx := fun i => X.out.cell i; replace Y := Aside0.mk (Y.out.below hb); replace hy := fun i => Y.out.cell i; replace Z := Aside0.mk (Z.out.below hb); replace hz := fun i => Z.out.cell i; replace P := Aside0.mk (P.out.below hb); replace hp := fun i => P.out.cell i; replace Q := Aside0.mk (Q.out.below hb); replace hq := fun i => Q.out.cell i; have hxa := fun i => (X.out.alloc (.cells #[.int .i64 x1, .int .i64 x2] 67)).cell i; have hya := fun i => (Y.out.alloc (.cells #[.int .i64 x1, .int .i64 x2] 67)).cell i; have hza := fun i => (Z.out.alloc (.cells #[.int .i64 x1, .int .i64 x2] 67)).cell i; have hpa := fun i => (P.out.alloc (.cells #[.int .i64 x1, .int .i64 x2] 67)).cell i; have hqa := fun i => (Q.out.alloc (.cells #[.int .i64 x1, .int .i64 x2] 67)).cell i; clear  hb))
    (try clear hxa hya hza hpa hqa)
    have hal := below_alloc (Below.refl W6.heap.size W6) (.cells #[.int .i64 x1, .int .i64 x2] 67)
    replace B := Aside0.mk (below_then B.out B.out.size hal)
    replace HA := Aside0.mk (HA.out.below hal)
    replace HB := Aside0.mk (HB.out.below hal)
    replace HC := Aside0.mk (HC.out.below hal)
    replace X := Aside0.mk (X.out.alloc (.cells #[.int .i64 x1, .int .i64 x2] 67)); replace hx := fun i => X.out.cell i
    replace Y := Aside0.mk (Y.out.alloc (.cells #[.int .i64 x1, .int .i64 x2] 67)); replace hy := fun i => Y.out.cell i
    replace Z := Aside0.mk (Z.out.alloc (.cells #[.int .i64 x1, .int .i64 x2] 67)); replace hz := fun i => Z.out.cell i
    replace P := Aside0.mk (P.out.alloc (.cells #[.int .i64 x1, .int .i64 x2] 67)); replace hp := fun i => P.out.cell i
    replace Q := Aside0.mk (Q.out.alloc (.cells #[.int .i64 x1, .int .i64 x2] 67)); replace hq := fun i => Q.out.cell i
    have R := Aside0.mk (Blk.new W6 #[.int .i64 x1, .int .i64 x2] 67); have hr := fun i => R.out.cell i; clear hal
    go_wp2_with (first | (go_at_call 56; (with_reducible refine (K4.out _ _ _ HA.out HA.out).mono ?_); rintro e W7 ⟨rfl, hb⟩; replace B := Aside0.mk (below_then B.out B.out.size hb); replace HA := Aside0.mk (HA.out.below hb); replace HB := Aside0.mk (HB.out.below hb); replace HC := Aside0.mk (HC.out.below hb); replace X := Aside0.mk (X.out.below hb); replace hx := fun i => X.out.cell i; replace Y := Aside0.mk (Y.out.below hb); replace hy := fun i => Y.out.cell i; replace Z := Aside0.mk (Z.out.below hb); replace hz := fun i => Z.out.cell i; replace P := Aside0.mk (P.out.below hb); replace hp := fun i => P.out.cell i; replace Q := Aside0.mk (Q.out.below hb); replace hq := fun i => Q.out.cell i; replace R := Aside0.mk (R.out.below hb); replace hr := fun i => R.out.cell i; have hxa := fun i => (X.out.alloc (.cells #[.int .i64 0, .int .i64 0] 67)).cell i; have hya := fun i => (Y.out.alloc (.cells #[.int .i64 0, .int .i64 0] 67)).cell i; have hza := fun i => (Z.out.alloc (.cells #[.int .i64 0, .int .i64 0] 67)).cell i; have hpa := fun i => (P.out.alloc (.cells #[.int .i64 0, .int .i64 0] 67)).cell i; have hqa := fun i => (Q.out.alloc (.cells #[.int .i64 0, .int .i64 0] 67)).cell i; have hra := fun i => (R.out.alloc (.cells #[.int .i64 0, .int .i64 0] 67)).cell i; clear  hb))
    (try clear hxa hya hza hpa hqa hra)
    have hal := below_alloc (Below.refl W7.heap.size W7) (.cells #[.int .i64 0, .int .i64 0] 67)
    replace B := Aside0.mk (below_then B.out B.out.size hal)
    replace HA := Aside0.mk (HA.out.below hal)
    replace HB := Aside0.mk (HB.out.below hal)
    replace HC := Aside0.mk (HC.out.below hal)
    replace X := Aside0.mk (X.out.alloc (.cells #[.int .i64 0, .int .i64 0] 67)); replace hx := fun i => X.out.cell i
    replace Y := Aside0.mk (Y.out.alloc (.cells #[.int .i64 0, .int .i64 0] 67)); replace hy := fun i => Y.out.cell i
    replace Z := Aside0.mk (Z.out.alloc (.cells #[.int .i64 0, .int .i64 0] 67)); replace hz := fun i => Z.out.cell i
    replace P := Aside0.mk (P.out.alloc (.cells #[.int .i64 0, .int .i64 0] 67)); replace hp := fun i => P.out.cell i
    replace Q := Aside0.mk (Q.out.alloc (.cells #[.int .i64 0, .int .i64 0] 67)); replace hq := fun i => Q.out.cell i
    replace R := Aside0.mk (R.out.alloc (.cells #[.int .i64 0, .int .i64 0] 67)); replace hr := fun i => R.out.cell i
    have S := Aside0.mk (Blk.new W7 #[.int .i64 0, .int .i64 0] 67); have hs := fun i => S.out.cell i; clear hal
    go_wp2_with (first | (go_at_call 67; (with_reducible refine (CK.out _ _ HA.out).mono ?_); rintro e W8 ⟨rfl, hb⟩; replace B := Aside0.mk (below_then B.out B.out.size hb); replace HA := Aside0.mk (HA.out.below hb); replace HB := Aside0.mk (HB.out.below hb); replace HC := Aside0.mk (HC.out.below hb); replace X := Aside0.mk (X.out.below hb); replace hx := fun i => X.out.cell i; replace Y := Aside0.mk (Y.out.below hb); replace hy := fun i => Y.out.cell i; replace Z := Aside0.mk (Z.out.below hb); replace hz := fun i => Z.out.cell i; replace P := Aside0.mk (P.out.below hb); replace hp := fun i => P.out.cell i; replace Q := Aside0.mk (Q.out.below hb); replace hq := fun i => Q.out.cell i; replace R := Aside0.mk (R.out.below hb); replace hr := fun i => R.out.cell i; replace S := Aside0.mk (S.out.below hb); replace hs := fun i => S.out.cell i; clear  hb) | (go_at_call 55; (with_reducible refine (awake11_c _).mono ?_); rintro e W9 ⟨rfl, hb⟩; replace B := Aside0.mk (below_then B.out B.out.size hb); replace HA := Aside0.mk (HA.out.below hb); replace HB := Aside0.mk (HB.out.below hb); replace HC := Aside0.mk (HC.out.below hb); replace X := Aside0.mk (X.out.below hb); replace hx := fun i => X.out.cell i; replace Y := Aside0.mk (Y.out.below hb); replace hy := fun i => Y.out.cell i; replace Z := Aside0.mk (Z.out.below hb); replace hz := fun i => Z.out.cell i; replace P := Aside0.mk (P.out.below hb); replace hp := fun i => P.out.cell i; replace Q := Aside0.mk (Q.out.below hb); replace hq := fun i => Q.out.cell i; replace R := Aside0.mk (R.out.below hb); replace hr := fun i => R.out.cell i; replace S := Aside0.mk (S.out.below hb); replace hs := fun i => S.out.cell i; clear  hb))
    go_ret
    exact ⟨rfl, B.out⟩
  have d4 : (w1 != 0) = false := by rw [c4]; rfl
  obtain ⟨h1, h2⟩ := hg rfl rfl c3 c4
  have d5 : (x1 == 0) = true := beq_iff_eq.2 h2
  subst h1
  clear c3 c4 h2 hg
  obtain ⟨A5a, c5a, A6a, c6a, A7a, c7a, A8a, c8a, e, -⟩ := hua.open_
  subst e
  obtain ⟨A5b, c5b, A6b, c6b, A7b, c7b, A8b, c8b, e, -⟩ := hub.open_
  subst e
  obtain ⟨A5c, c5c, A6c, c6c, A7c, c7c, A8c, c8c, e, -⟩ := huc.open_
  subst e
  have B := Aside0.mk (below_alloc (below_alloc (below_alloc (Below.refl w.heap.size w) (.cells #[.int .i64 a.f0, .int .u64 a.f1, .int .u64 a.f2, .int .u64 a.f3, .int .u64 a.f4, .slice A5a a.f5.length c5a, .slice A6a a.f6.length c6a, .slice A7a a.f7.length c7a, .slice A8a a.f8.length c8a] 64)) (.cells #[.int .i64 b.f0, .int .u64 b.f1, .int .u64 b.f2, .int .u64 b.f3, .int .u64 b.f4, .slice A5b b.f5.length c5b, .slice A6b b.f6.length c6b, .slice A7b b.f7.length c7b, .slice A8b b.f8.length c8b] 64)) (.cells #[.int .i64 c.f0, .int .u64 c.f1, .int .u64 c.f2, .int .u64 c.f3, .int .u64 c.f4, .slice A5c c.f5.length c5c, .slice A6c c.f6.length c6c, .slice A7c c.f7.length c7c, .slice A8c c.f8.length c8c] 64))
  have X := Aside0.mk (((Blk.new w #[.int .i64 a.f0, .int .u64 a.f1, .int .u64 a.f2, .int .u64 a.f3, .int .u64 a.f4, .slice A5a a.f5.length c5a, .slice A6a a.f6.length c6a, .slice A7a a.f7.length c7a, .slice A8a a.f8.length c8a] 64).alloc (.cells #[.int .i64 b.f0, .int .u64 b.f1, .int .u64 b.f2, .int .u64 b.f3, .int .u64 b.f4, .slice A5b b.f5.length c5b, .slice A6b b.f6.length c6b, .slice A7b b.f7.length c7b, .slice A8b b.f8.length c8b] 64)).alloc (.cells #[.int .i64 c.f0, .int .u64 c.f1, .int .u64 c.f2, .int .u64 c.f3, .int .u64 c.f4, .slice A5c c.f5.length c5c, .slice A6c c.f6.length c6c, .slice A7c c.f7.length c7c, .slice A8c c.f8.length c8c] 64))
  have hx := fun i => X.out.cell i
  have Y := Aside0.mk ((show Blk ((w.alloc (.cells #[.int .i64 a.f0, .int .u64 a.f1, .int .u64 a.f2, .int .u64 a.f3, .int .u64 a.f4, .slice A5a a.f5.length c5a, .slice A6a a.f6.length c6a, .slice A7a a.f7.length c7a, .slice A8a a.f8.length c8a] 64)).alloc (.cells #[.int .i64 b.f0, .int .u64 b.f1, .int .u64 b.f2, .int .u64 b.f3, .int .u64 b.f4, .slice A5b b.f5.length c5b, .slice A6b b.f6.length c6b, .slice A7b b.f7.length c7b, .slice A8b b.f8.length c8b] 64)) (w.heap.size + 1) #[.int .i64 b.f0, .int .u64 b.f1, .int .u64 b.f2, .int .u64 b.f3, .int .u64 b.f4, .slice A5b b.f5.length c5b, .slice A6b b.f6.length c6b, .slice A7b b.f7.length c7b, .slice A8b b.f8.length c8b] 64 by have := Blk.new (w.alloc (.cells #[.int .i64 a.f0, .int .u64 a.f1, .int .u64 a.f2, .int .u64 a.f3, .int .u64 a.f4, .slice A5a a.f5.length c5a, .slice A6a a.f6.length c6a, .slice A7a a.f7.length c7a, .slice A8a a.f8.length c8a] 64)) #[.int .i64 b.f0, .int .u64 b.f1, .int .u64 b.f2, .int .u64 b.f3, .int .u64 b.f4, .slice A5b b.f5.length c5b, .slice A6b b.f6.length c6b, .slice A7b b.f7.length c7b, .slice A8b b.f8.length c8b] 64; simpa using this).alloc (.cells #[.int .i64 c.f0, .int .u64 c.f1, .int .u64 c.f2, .int .u64 c.f3, .int .u64 c.f4, .slice A5c c.f5.length c5c, .slice A6c c.f6.length c6c, .slice A7c c.f7.length c7c, .slice A8c c.f8.length c8c] 64))
  have hy := fun i => Y.out.cell i
  have Z := Aside0.mk (show Blk (((w.alloc (.cells #[.int .i64 a.f0, .int .u64 a.f1, .int .u64 a.f2, .int .u64 a.f3, .int .u64 a.f4, .slice A5a a.f5.length c5a, .slice A6a a.f6.length c6a, .slice A7a a.f7.length c7a, .slice A8a a.f8.length c8a] 64)).alloc (.cells #[.int .i64 b.f0, .int .u64 b.f1, .int .u64 b.f2, .int .u64 b.f3, .int .u64 b.f4, .slice A5b b.f5.length c5b, .slice A6b b.f6.length c6b, .slice A7b b.f7.length c7b, .slice A8b b.f8.length c8b] 64)).alloc (.cells #[.int .i64 c.f0, .int .u64 c.f1, .int .u64 c.f2, .int .u64 c.f3, .int .u64 c.f4, .slice A5c c.f5.length c5c, .slice A6c c.f6.length c6c, .slice A7c c.f7.length c7c, .slice A8c c.f8.length c8c] 64)) (w.heap.size + 1 + 1) #[.int .i64 c.f0, .int .u64 c.f1, .int .u64 c.f2, .int .u64 c.f3, .int .u64 c.f4, .slice A5c c.f5.length c5c, .slice A6c c.f6.length c6c, .slice A7c c.f7.length c7c, .slice A8c c.f8.length c8c] 64 by have := Blk.new ((w.alloc (.cells #[.int .i64 a.f0, .int .u64 a.f1, .int .u64 a.f2, .int .u64 a.f3, .int .u64 a.f4, .slice A5a a.f5.length c5a, .slice A6a a.f6.length c6a, .slice A7a a.f7.length c7a, .slice A8a a.f8.length c8a] 64)).alloc (.cells #[.int .i64 b.f0, .int .u64 b.f1, .int .u64 b.f2, .int .u64 b.f3, .int .u64 b.f4, .slice A5b b.f5.length c5b, .slice A6b b.f6.length c6b, .slice A7b b.f7.length c7b, .slice A8b b.f8.length c8b] 64)) #[.int .i64 c.f0, .int .u64 c.f1, .int .u64 c.f2, .int .u64 c.f3, .int .u64 c.f4, .slice A5c c.f5.length c5c, .slice A6c c.f6.length c6c, .slice A7c c.f7.length c7c, .slice A8c c.f8.length c8c] 64; simpa using this)
  have hz := fun i => Z.out.cell i
  have HA := Aside0.mk (hua.below B.out)
  have HB := Aside0.mk (hub.below B.out)
  have HC := Aside0.mk (huc.below B.out)
  clear hua hub huc
  go_enter Try.func11, Try.ntmps11
  go_wp2_with (first | (go_at_call 54; (with_reducible refine (CS.out _ _ HA.out).mono ?_); rintro e W1 ⟨rfl, hb⟩; replace B := Aside0.mk (below_then B.out B.out.size hb); replace HA := Aside0.mk (HA.out.below hb); replace HB := Aside0.mk (HB.out.below hb); replace HC := Aside0.mk (HC.out.below hb); replace X := Aside0.mk (X.out.below hb); replace hx := fun i => X.out.cell i; replace Y := Aside0.mk (Y.out.below hb); replace hy := fun i => Y.out.cell i; replace Z := Aside0.mk (Z.out.below hb); replace hz := fun i => Z.out.cell i; clear  hb) | (go_at_call 54; (with_reducible refine (CT.out _ _ HB.out).mono ?_); rintro e W2 ⟨rfl, hb⟩; replace B := Aside0.mk (below_then B.out B.out.size hb); replace HA := Aside0.mk (HA.out.below hb); replace HB := Aside0.mk (HB.out.below hb); replace HC := Aside0.mk (HC.out.below hb); replace X := Aside0.mk (X.out.below hb); replace hx := fun i => X.out.cell i; replace Y := Aside0.mk (Y.out.below hb); replace hy := fun i => Y.out.cell i; replace Z := Aside0.mk (Z.out.below hb); replace hz := fun i => Z.out.cell i; clear  hb) | (go_at_call 54; (with_reducible refine (CU.out _ _ HC.out).mono ?_); rintro e W3 ⟨rfl, hb⟩; replace B := Aside0.mk (below_then B.out B.out.size hb); replace HA := Aside0.mk (HA.out.below hb); replace HB := Aside0.mk (HB.out.below hb); replace HC := Aside0.mk (HC.out.below hb); replace X := Aside0.mk (X.out.below hb); replace hx := fun i => X.out.cell i; replace Y := Aside0.mk (Y.out.below hb); replace hy := fun i => Y.out.cell i; replace Z := Aside0.mk (Z.out.below hb); replace hz := fun i => Z.out.cell i; clear  hb) | (go_at_call 56; (with_reducible refine (K1.out _ _ _ HA.out HB.out).mono ?_); rintro e W4 ⟨rfl, hb⟩; replace B := Aside0.mk (below_then B.out B.out.size hb); replace HA := Aside0.mk (HA.out.below hb); replace HB := Aside0.mk (HB.out.below hb); replace HC := Aside0.mk (HC.out.below hb); replace X := Aside0.mk (X.out.below hb); replace hx := fun i => X.out.cell i; replace Y := Aside0.mk (Y.out.below hb); replace hy := fun i => Y.out.cell i; replace Z := Aside0.mk (Z.out.below hb); replace hz := fun i => Z.out.cell i; have hxa := fun i => (X.out.alloc (.cells #[.int .i64 v1, .int .i64 v2] 67)).cell i; have hya := fun i => (Y.out.alloc (.cells #[.int .i64 v1, .int .i64 v2] 67)).cell i; have hza := fun i => (Z.out.alloc (.cells #[.int .i64 v1, .int .i64 v2] 67)).cell i; clear  hb))
  (try clear hxa hya hza)
  have hal := below_alloc (Below.refl W4.heap.size W4) (.cells #[.int .i64 v1, .int .i64 v2] 67)
  replace B := Aside0.mk (below_then B.out B.out.size hal)
  replace HA := Aside0.mk (HA.out.below hal)
  replace HB := Aside0.mk (HB.out.below hal)
  replace HC := Aside0.mk (HC.out.below hal)
  replace X := Aside0.mk (X.out.alloc (.cells #[.int .i64 v1, .int .i64 v2] 67)); replace hx := fun i => X.out.cell i
  replace Y := Aside0.mk (Y.out.alloc (.cells #[.int .i64 v1, .int .i64 v2] 67)); replace hy := fun i => Y.out.cell i
  replace Z := Aside0.mk (Z.out.alloc (.cells #[.int .i64 v1, .int .i64 v2] 67)); replace hz := fun i => Z.out.cell i
  have P := Aside0.mk (Blk.new W4 #[.int .i64 v1, .int .i64 v2] 67); have hp := fun i => P.out.cell i; clear hal
  go_wp2_with (first | (go_at_call 56; (with_reducible refine (K2.out _ _ _ HB.out HC.out).mono ?_); rintro e W5 ⟨rfl, hb⟩; replace B := Aside0.mk (below_then B.out B.out.size hb); replace HA := Aside0.mk (HA.out.below hb); replace HB := Aside0.mk (HB.out.below hb); replace HC := Aside0.mk (HC.out.below hb); replace X := Aside0.mk (X.out.below hb); replace hx := fun i => X.out.cell i; replace Y := Aside0.mk (Y.out.below hb); replace hy := fun i => Y.out.cell i; replace Z := Aside0.mk (Z.out.below hb); replace hz := fun i => Z.out.cell i; replace P := Aside0.mk (P.out.below hb); replace hp := fun i => P.out.cell i; have hxa := fun i => (X.out.alloc (.cells #[.int .i64 w1, .int .i64 w2] 67)).cell i; have hya := fun i => (Y.out.alloc (.cells #[.int .i64 w1, .int .i64 w2] 67)).cell i; have hza := fun i => (Z.out.alloc (.cells #[.int .i64 w1, .int .i64 w2] 67)).cell i; have hpa := fun i => (P.out.alloc (.cells #[.int .i64 w1, .int .i64 w2] 67)).cell i; clear  hb))
  (try clear hxa hya hza hpa)
  have hal := below_alloc (Below.refl W5.heap.size W5) (.cells #[.int .i64 w1, .int .i64 w2] 67)
  replace B := Aside0.mk (below_then B.out B.out.size hal)
  replace HA := Aside0.mk (HA.out.below hal)
  replace HB := Aside0.mk (HB.out.below hal)
  replace HC := Aside0.mk (HC.out.below hal)
  replace X := Aside0.mk (X.out.alloc (.cells #[.int .i64 w1, .int .i64 w2] 67)); replace hx := fun i => X.out.cell i
  replace Y := Aside0.mk (Y.out.alloc (.cells #[.int .i64 w1, .int .i64 w2] 67)); replace hy := fun i => Y.out.cell i
  replace Z := Aside0.mk (Z.out.alloc (.cells #[.int .i64 w1, .int .i64 w2] 67)); replace hz := fun i => Z.out.cell i
  replace P := Aside0.mk (P.out.alloc (.cells #[.int .i64 w1, .int .i64 w2] 67)); replace hp := fun i => P.out.cell i
  have Q := Aside0.mk (Blk.new W5 #[.int .i64 w1, .int .i64 w2] 67); have hq := fun i => Q.out.cell i; clear hal
  go_wp2_with (first | (go_at_call 56; (with_reducible refine (K3.out _ _ _ HA.out HC.out).mono ?_); rintro e W6 ⟨rfl, hb⟩; replace B := Aside0.mk (below_then B.out B.out.size hb); replace HA := Aside0.mk (HA.out.below hb); replace HB := Aside0.mk (HB.out.below hb); replace HC := Aside0.mk (HC.out.below hb); replace X := Aside0.mk (X.out.below hb); replace hx := fun i => X.out.cell i; replace Y := Aside0.mk (Y.out.below hb); replace hy := fun i => Y.out.cell i; replace Z := Aside0.mk (Z.out.below hb); replace hz := fun i => Z.out.cell i; replace P := Aside0.mk (P.out.below hb); replace hp := fun i => P.out.cell i; replace Q := Aside0.mk (Q.out.below hb); replace hq := fun i => Q.out.cell i; have hxa := fun i => (X.out.alloc (.cells #[.int .i64 x1, .int .i64 x2] 67)).cell i; have hya := fun i => (Y.out.alloc (.cells #[.int .i64 x1, .int .i64 x2] 67)).cell i; have hza := fun i => (Z.out.alloc (.cells #[.int .i64 x1, .int .i64 x2] 67)).cell i; have hpa := fun i => (P.out.alloc (.cells #[.int .i64 x1, .int .i64 x2] 67)).cell i; have hqa := fun i => (Q.out.alloc (.cells #[.int .i64 x1, .int .i64 x2] 67)).cell i; clear  hb))
  (try clear hxa hya hza hpa hqa)
  have hal := below_alloc (Below.refl W6.heap.size W6) (.cells #[.int .i64 x1, .int .i64 x2] 67)
  replace B := Aside0.mk (below_then B.out B.out.size hal)
  replace HA := Aside0.mk (HA.out.below hal)
  replace HB := Aside0.mk (HB.out.below hal)
  replace HC := Aside0.mk (HC.out.below hal)
  replace X := Aside0.mk (X.out.alloc (.cells #[.int .i64 x1, .int .i64 x2] 67)); replace hx := fun i => X.out.cell i
  replace Y := Aside0.mk (Y.out.alloc (.cells #[.int .i64 x1, .int .i64 x2] 67)); replace hy := fun i => Y.out.cell i
  replace Z := Aside0.mk (Z.out.alloc (.cells #[.int .i64 x1, .int .i64 x2] 67)); replace hz := fun i => Z.out.cell i
  replace P := Aside0.mk (P.out.alloc (.cells #[.int .i64 x1, .int .i64 x2] 67)); replace hp := fun i => P.out.cell i
  replace Q := Aside0.mk (Q.out.alloc (.cells #[.int .i64 x1, .int .i64 x2] 67)); replace hq := fun i => Q.out.cell i
  have R := Aside0.mk (Blk.new W6 #[.int .i64 x1, .int .i64 x2] 67); have hr := fun i => R.out.cell i; clear hal
  go_wp2_with (first | (go_at_call 56; (with_reducible refine (K4.out _ _ _ HA.out HA.out).mono ?_); rintro e W7 ⟨rfl, hb⟩; replace B := Aside0.mk (below_then B.out B.out.size hb); replace HA := Aside0.mk (HA.out.below hb); replace HB := Aside0.mk (HB.out.below hb); replace HC := Aside0.mk (HC.out.below hb); replace X := Aside0.mk (X.out.below hb); replace hx := fun i => X.out.cell i; replace Y := Aside0.mk (Y.out.below hb); replace hy := fun i => Y.out.cell i; replace Z := Aside0.mk (Z.out.below hb); replace hz := fun i => Z.out.cell i; replace P := Aside0.mk (P.out.below hb); replace hp := fun i => P.out.cell i; replace Q := Aside0.mk (Q.out.below hb); replace hq := fun i => Q.out.cell i; replace R := Aside0.mk (R.out.below hb); replace hr := fun i => R.out.cell i; have hxa := fun i => (X.out.alloc (.cells #[.int .i64 0, .int .i64 0] 67)).cell i; have hya := fun i => (Y.out.alloc (.cells #[.int .i64 0, .int .i64 0] 67)).cell i; have hza := fun i => (Z.out.alloc (.cells #[.int .i64 0, .int .i64 0] 67)).cell i; have hpa := fun i => (P.out.alloc (.cells #[.int .i64 0, .int .i64 0] 67)).cell i; have hqa := fun i => (Q.out.alloc (.cells #[.int .i64 0, .int .i64 0] 67)).cell i; have hra := fun i => (R.out.alloc (.cells #[.int .i64 0, .int .i64 0] 67)).cell i; clear  hb))
  (try clear hxa hya hza hpa hqa hra)
  have hal := below_alloc (Below.refl W7.heap.size W7) (.cells #[.int .i64 0, .int .i64 0] 67)
  replace B := Aside0.mk (below_then B.out B.out.size hal)
  replace HA := Aside0.mk (HA.out.below hal)
  replace HB := Aside0.mk (HB.out.below hal)
  replace HC := Aside0.mk (HC.out.below hal)
  replace X := Aside0.mk (X.out.alloc (.cells #[.int .i64 0, .int .i64 0] 67)); replace hx := fun i => X.out.cell i
  replace Y := Aside0.mk (Y.out.alloc (.cells #[.int .i64 0, .int .i64 0] 67)); replace hy := fun i => Y.out.cell i
  replace Z := Aside0.mk (Z.out.alloc (.cells #[.int .i64 0, .int .i64 0] 67)); replace hz := fun i => Z.out.cell i
  replace P := Aside0.mk (P.out.alloc (.cells #[.int .i64 0, .int .i64 0] 67)); replace hp := fun i => P.out.cell i
  replace Q := Aside0.mk (Q.out.alloc (.cells #[.int .i64 0, .int .i64 0] 67)); replace hq := fun i => Q.out.cell i
  replace R := Aside0.mk (R.out.alloc (.cells #[.int .i64 0, .int .i64 0] 67)); replace hr := fun i => R.out.cell i
  have S := Aside0.mk (Blk.new W7 #[.int .i64 0, .int .i64 0] 67); have hs := fun i => S.out.cell i; clear hal
  go_wp2_with (first | (go_at_call 67; (with_reducible refine (CK.out _ _ HA.out).mono ?_); rintro e W8 ⟨rfl, hb⟩; replace B := Aside0.mk (below_then B.out B.out.size hb); replace HA := Aside0.mk (HA.out.below hb); replace HB := Aside0.mk (HB.out.below hb); replace HC := Aside0.mk (HC.out.below hb); replace X := Aside0.mk (X.out.below hb); replace hx := fun i => X.out.cell i; replace Y := Aside0.mk (Y.out.below hb); replace hy := fun i => Y.out.cell i; replace Z := Aside0.mk (Z.out.below hb); replace hz := fun i => Z.out.cell i; replace P := Aside0.mk (P.out.below hb); replace hp := fun i => P.out.cell i; replace Q := Aside0.mk (Q.out.below hb); replace hq := fun i => Q.out.cell i; replace R := Aside0.mk (R.out.below hb); replace hr := fun i => R.out.cell i; replace S := Aside0.mk (S.out.below hb); replace hs := fun i => S.out.cell i; clear  hb) | (go_at_call 55; (with_reducible refine (awake11_c _).mono ?_); rintro e W9 ⟨rfl, hb⟩; replace B := Aside0.mk (below_then B.out B.out.size hb); replace HA := Aside0.mk (HA.out.below hb); replace HB := Aside0.mk (HB.out.below hb); replace HC := Aside0.mk (HC.out.below hb); replace X := Aside0.mk (X.out.below hb); replace hx := fun i => X.out.cell i; replace Y := Aside0.mk (Y.out.below hb); replace hy := fun i => Y.out.cell i; replace Z := Aside0.mk (Z.out.below hb); replace hz := fun i => Z.out.cell i; replace P := Aside0.mk (P.out.below hb); replace hp := fun i => P.out.cell i; replace Q := Aside0.mk (Q.out.below hb); replace hq := fun i => Q.out.cell i; replace R := Aside0.mk (R.out.below hb); replace hr := fun i => R.out.cell i; replace S := Aside0.mk (S.out.below hb); replace hs := fun i => S.out.cell i; clear  hb))
  go_ret
  exact ⟨rfl, B.out⟩
def tidepolelaw11_ResetGoes.f (s0 z0 zc0 ct0 sm0 : Int) (l0_5 l0_6 : List Sp) (l0_7 l0_8 : List Int) (s1 z1 zc1 ct1 sm1 : Int) (l1_5 l1_6 : List Sp) (l1_7 l1_8 : List Int) (s2 z2 zc2 ct2 sm2 : Int) (l2_5 l2_6 : List Sp) (l2_7 l2_8 : List Int) : Option Bool := if wfI ⟨s0, z0, zc0, ct0, sm0, l0_5, l0_6, l0_7, l0_8⟩ ∧ wfI ⟨s1, z1, zc1, ct1, sm1, l1_5, l1_6, l1_7, l1_8⟩ ∧ wfI ⟨s2, z2, zc2, ct2, sm2, l2_5, l2_6, l2_7, l2_8⟩ then some true else none
theorem tidepolelaw11_ResetGoes.calls (s0 : Int) (z0 : Int) (zc0 : Int) (ct0 : Int) (sm0 : Int) (A0_5 : Option Addr) (c0_5 : Nat) (l0_5 : List Sp) (A0_6 : Option Addr) (c0_6 : Nat) (l0_6 : List Sp) (A0_7 : Option Addr) (c0_7 : Nat) (l0_7 : List Int) (A0_8 : Option Addr) (c0_8 : Nat) (l0_8 : List Int) (s1 : Int) (z1 : Int) (zc1 : Int) (ct1 : Int) (sm1 : Int) (A1_5 : Option Addr) (c1_5 : Nat) (l1_5 : List Sp) (A1_6 : Option Addr) (c1_6 : Nat) (l1_6 : List Sp) (A1_7 : Option Addr) (c1_7 : Nat) (l1_7 : List Int) (A1_8 : Option Addr) (c1_8 : Nat) (l1_8 : List Int) (s2 : Int) (z2 : Int) (zc2 : Int) (ct2 : Int) (sm2 : Int) (A2_5 : Option Addr) (c2_5 : Nat) (l2_5 : List Sp) (A2_6 : Option Addr) (c2_6 : Nat) (l2_6 : List Sp) (A2_7 : Option Addr) (c2_7 : Nat) (l2_7 : List Int) (A2_8 : Option Addr) (c2_8 : Nat) (l2_8 : List Int) (r : Bool) (w : World) (hr0_5 : Kd.C kSp w A0_5 l0_5.length l0_5) (hc0_5 : l0_5.length ≤ c0_5) (hr0_6 : Kd.C kSp w A0_6 l0_6.length l0_6) (hc0_6 : l0_6.length ≤ c0_6) (hr0_7 : Kd.C (Kd.int .i64) w A0_7 l0_7.length l0_7) (hc0_7 : l0_7.length ≤ c0_7) (hr0_8 : Kd.C (Kd.int .i64) w A0_8 l0_8.length l0_8) (hc0_8 : l0_8.length ≤ c0_8) (hr1_5 : Kd.C kSp w A1_5 l1_5.length l1_5) (hc1_5 : l1_5.length ≤ c1_5) (hr1_6 : Kd.C kSp w A1_6 l1_6.length l1_6) (hc1_6 : l1_6.length ≤ c1_6) (hr1_7 : Kd.C (Kd.int .i64) w A1_7 l1_7.length l1_7) (hc1_7 : l1_7.length ≤ c1_7) (hr1_8 : Kd.C (Kd.int .i64) w A1_8 l1_8.length l1_8) (hc1_8 : l1_8.length ≤ c1_8) (hr2_5 : Kd.C kSp w A2_5 l2_5.length l2_5) (hc2_5 : l2_5.length ≤ c2_5) (hr2_6 : Kd.C kSp w A2_6 l2_6.length l2_6) (hc2_6 : l2_6.length ≤ c2_6) (hr2_7 : Kd.C (Kd.int .i64) w A2_7 l2_7.length l2_7) (hc2_7 : l2_7.length ≤ c2_7) (hr2_8 : Kd.C (Kd.int .i64) w A2_8 l2_8.length l2_8) (hc2_8 : l2_8.length ≤ c2_8) (h : tidepolelaw11_ResetGoes.f s0 z0 zc0 ct0 sm0 l0_5 l0_6 l0_7 l0_8 s1 z1 zc1 ct1 sm1 l1_5 l1_6 l1_7 l1_8 s2 z2 zc2 ct2 sm2 l2_5 l2_6 l2_7 l2_8 = some r) :
    Calls Try.prog 11 #[.agg #[.int .i64 s0, .int .u64 z0, .int .u64 zc0, .int .u64 ct0, .int .u64 sm0, .slice A0_5 l0_5.length c0_5, .slice A0_6 l0_6.length c0_6, .slice A0_7 l0_7.length c0_7, .slice A0_8 l0_8.length c0_8], .agg #[.int .i64 s1, .int .u64 z1, .int .u64 zc1, .int .u64 ct1, .int .u64 sm1, .slice A1_5 l1_5.length c1_5, .slice A1_6 l1_6.length c1_6, .slice A1_7 l1_7.length c1_7, .slice A1_8 l1_8.length c1_8], .agg #[.int .i64 s2, .int .u64 z2, .int .u64 zc2, .int .u64 ct2, .int .u64 sm2, .slice A2_5 l2_5.length c2_5, .slice A2_6 l2_6.length c2_6, .slice A2_7 l2_7.length c2_7, .slice A2_8 l2_8.length c2_8]] w fun e w' => e = .returned (.bool r) ∧ Below w.heap.size w w' := by
  obtain ⟨⟨q0, q1, q2⟩, rfl⟩ := of_ite_some h
  exact resetGoes_c _ _ _ q0 q1 q2 w _ _ _ (HI.mk (h := ⟨s0, z0, zc0, ct0, sm0, l0_5, l0_6, l0_7, l0_8⟩) (.of hr0_5 hc0_5) (.of hr0_6 hc0_6) (.of hr0_7 hc0_7) (.of hr0_8 hc0_8)) (HI.mk (h := ⟨s1, z1, zc1, ct1, sm1, l1_5, l1_6, l1_7, l1_8⟩) (.of hr1_5 hc1_5) (.of hr1_6 hc1_6) (.of hr1_7 hc1_7) (.of hr1_8 hc1_8)) (HI.mk (h := ⟨s2, z2, zc2, ct2, sm2, l2_5, l2_6, l2_7, l2_8⟩) (.of hr2_5 hc2_5) (.of hr2_6 hc2_6) (.of hr2_7 hc2_7) (.of hr2_8 hc2_8))
end Go.Proofs.Ytacgeafjilipdaa.P
namespace Go.Proofs.Ytacgeafjilipdaa.P
def headSigns : List Char := List.map Char.ofNat [104, 97, 114, 110, 101, 115, 115, 32, 97, 50, 97, 99, 52, 56, 53, 53, 54, 101, 54, 52, 97, 51, 49, 101, 54, 54, 98, 55, 102, 55, 97, 51, 54, 49, 102, 100, 52, 100, 51, 54, 55, 57, 100, 102, 98, 49, 97, 57, 53, 50, 101, 57, 54, 51, 55, 99, 57, 57, 56, 52, 48, 101, 100, 50, 99, 98, 97, 100, 54, 54, 50, 100, 32, 99, 117, 116, 32, 97, 116, 32, 116, 105, 100, 101, 112, 111, 108, 101, 47, 116, 105, 100, 101, 112, 111, 108, 101, 108, 97, 119, 48, 55, 46, 80, 97, 105, 114, 115, 85, 110, 122, 105, 112, 32, 116, 105, 100, 101, 112, 111, 108, 101, 47, 116, 105, 100, 101, 112, 111, 108, 101, 108, 97, 119, 48, 55, 46, 80, 97, 105, 114, 115, 70, 105, 110, 100, 115, 32, 116, 105, 100, 101, 112, 111, 108, 101, 47, 116, 105, 100, 101, 112, 111, 108, 101, 108, 97, 119, 48, 55, 46, 80, 97, 105, 114, 115, 77, 101, 114, 103, 101, 32, 116, 105, 100, 101, 112, 111, 108, 101, 47, 116, 105, 100, 101, 112, 111, 108, 101, 108, 97, 119, 48, 55, 46, 80, 97, 105, 114, 115, 90, 105, 112, 32, 116, 105, 100, 101, 112, 111, 108, 101, 47, 116, 105, 100, 101, 112, 111, 108, 101, 108, 97, 119, 48, 55, 46, 80, 97, 105, 114, 115, 68, 101, 108, 116, 97, 115, 32, 116, 105, 100, 101, 112, 111, 108, 101, 47, 116, 105, 100, 101, 112, 111, 108, 101, 108, 97, 119, 49, 49, 46, 82, 101, 115, 101, 116, 73, 110, 116, 115, 32, 116, 105, 100, 101, 112, 111, 108, 101, 47, 116, 105, 100, 101, 112, 111, 108, 101, 108, 97, 119, 49, 49, 46, 82, 101, 115, 101, 116, 70, 108, 111, 97, 116, 115, 32, 116, 105, 100, 101, 112, 111, 108, 101, 47, 116, 105, 100, 101, 112, 111, 108, 101, 108, 97, 119, 49, 49, 46, 82, 101, 115, 101, 116, 78, 97, 109, 101, 115, 32, 116, 105, 100, 101, 112, 111, 108, 101, 47, 116, 105, 100, 101, 112, 111, 108, 101, 108, 97, 119, 49, 49, 46, 82, 101, 115, 101, 116, 71, 111, 101, 115, 32, 116, 105, 100, 101, 112, 111, 108, 101, 47, 116, 105, 100, 101, 112, 111, 108, 101, 108, 97, 119, 49, 49, 46, 82, 101, 115, 101, 116, 66, 111, 116, 104, 32, 116, 105, 100, 101, 112, 111, 108, 101, 47, 116, 105, 100, 101, 112, 111, 108, 101, 108, 97, 119, 48, 57, 46, 72, 105, 115, 116, 67, 104, 101, 99, 107, 115, 32, 116, 105, 100, 101, 112, 111, 108, 101, 47, 116, 105, 100, 101, 112, 111, 108, 101, 108, 97, 119, 48, 57, 46, 72, 105, 115, 116, 80, 97, 105, 114, 115, 32, 116, 105, 100, 101, 112, 111, 108, 101, 47, 116, 105, 100, 101, 112, 111, 108, 101, 108, 97, 119, 48, 57, 46, 72, 105, 115, 116, 69, 113, 117, 97, 108, 32, 116, 105, 100, 101, 112, 111, 108, 101, 47, 116, 105, 100, 101, 112, 111, 108, 101, 108, 97, 119, 48, 57, 46, 72, 105, 115, 116, 79, 118, 101, 114, 32, 116, 105, 100, 101, 112, 111, 108, 101, 47, 116, 105, 100, 101, 112, 111, 108, 101, 108, 97, 119, 48, 57, 46, 72, 105, 115, 116, 77, 97, 107, 101, 115, 32, 116, 105, 100, 101, 112, 111, 108, 101, 47, 116, 105, 100, 101, 112, 111, 108, 101, 108, 97, 119, 48, 57, 46, 72, 105, 115, 116, 67, 97, 110, 111, 110, 32, 116, 105, 100, 101, 112, 111, 108, 101, 47, 116, 105, 100, 101, 112, 111, 108, 101, 108, 97, 119, 48, 57, 46, 72, 105, 115, 116, 87, 97, 108, 107, 115, 32, 116, 105, 100, 101, 112, 111, 108, 101, 47, 116, 105, 100, 101, 112, 111, 108, 101, 108, 97, 119, 49, 49, 46, 82, 101, 115, 101, 116, 76, 97, 121, 115, 32, 116, 105, 100, 101, 112, 111, 108, 101, 47, 116, 105, 100, 101, 112, 111, 108, 101, 108, 97, 119, 49, 48, 46, 70, 104, 105, 115, 116, 67, 104, 101, 99, 107, 115, 32, 116, 105, 100, 101, 112, 111, 108, 101, 47, 116, 105, 100, 101, 112, 111, 108, 101, 108, 97, 119, 49, 48, 46, 70, 104, 105, 115, 116, 80, 97, 105, 114, 115, 32, 116, 105, 100, 101, 112, 111, 108, 101, 47, 116, 105, 100, 101, 112, 111, 108, 101, 108, 97, 119, 49, 48, 46, 70, 104, 105, 115, 116, 69, 113, 117, 97, 108, 32, 116, 105, 100, 101, 112, 111, 108, 101, 47, 116, 105, 100, 101, 112, 111, 108, 101, 108, 97, 119, 49, 48, 46, 70, 104, 105, 115, 116, 79, 118, 101, 114, 32, 116, 105, 100, 101, 112, 111, 108, 101, 47, 116, 105, 100, 101, 112, 111, 108, 101, 108, 97, 119, 49, 48, 46, 70, 104, 105, 115, 116, 70, 108, 111, 97, 116, 115, 32, 116, 105, 100, 101, 112, 111, 108, 101, 47, 116, 105, 100, 101, 112, 111, 108, 101, 108, 97, 119, 49, 48, 46, 70, 104, 105, 115, 116, 77, 97, 107, 101, 115, 32, 116, 105, 100, 101, 112, 111, 108, 101, 47, 116, 105, 100, 101, 112, 111, 108, 101, 108, 97, 119, 49, 48, 46, 70, 104, 105, 115, 116, 67, 97, 110, 111, 110, 32, 116, 105, 100, 101, 112, 111, 108, 101, 47, 116, 105, 100, 101, 112, 111, 108, 101, 108, 97, 119, 49, 48, 46, 70, 104, 105, 115, 116, 66, 97, 99, 107, 32, 116, 105, 100, 101, 112, 111, 108, 101, 47, 116, 105, 100, 101, 112, 111, 108, 101, 108, 97, 119, 49, 48, 46, 70, 104, 105, 115, 116, 70, 114, 111, 109]
theorem head_is : Try.prog.initOrder = String.ofList headSigns := by kernel_rfl
theorem head_signs : Try.prog.initOrder.toList = headSigns := by rw [head_is]; exact String.toList_ofList
theorem head_first : (behindMainWord (wordsSigns headSigns)).head? = some "cut".toList := by kernel_rfl
theorem head_words : ∃ r, behindMainWord (wordsSigns headSigns) = "cut".toList :: r := by have h := head_first; cases h2 : behindMainWord (wordsSigns headSigns) with | nil => rw [h2] at h; cases h | cons c r => rw [h2] at h; injection h with h; exact ⟨r, by rw [h]⟩
theorem strip_cut (r : List (List Char)) : stripLifts liftWords ("cut".toList :: r) = ([], "cut".toList :: r) := by kernel_rfl
theorem head_lifts : Try.prog.headLifts = [] := by obtain ⟨r, hr⟩ := head_words; unfold Program.headLifts; rw [head_signs, hr, strip_cut]; kernel_rfl
theorem head_doorFits : Try.prog.doorFits [] = true := by kernel_rfl
theorem head_laysLater : Try.prog.laysLater = false := by kernel_rfl
theorem head_bearsReflect : Try.prog.bearsReflect = false := by kernel_rfl
theorem mayEnter_of {P : Program} {L : List Char} {r : List (List Char)} (h1 : P.initOrder.toList = L) (h2 : behindMainWord (wordsSigns L) = "cut".toList :: r) (h3 : P.doorFits [] = true) (h4 : P.laysLater = false) (h5 : P.bearsReflect = false) : P.mayEnter = true := by unfold Program.mayEnter; rw [h1, h2]; simp only [strip_cut, h3, h4, h5]; kernel_rfl
theorem head_mayEnter : Try.prog.mayEnter = true := by obtain ⟨r, hr⟩ := head_words; exact mayEnter_of head_signs hr head_doorFits head_laysLater head_bearsReflect
theorem head_liftsFinal : Try.prog.liftsFinal = false := by obtain ⟨r, hr⟩ := head_words; unfold Program.liftsFinal; rw [head_signs, head_lifts, hr]; kernel_rfl
theorem make_of {P : Program} {L : List Char} {r : List (List Char)} (h1 : P.initOrder.toList = L) (h2 : behindMainWord (wordsSigns L) = "cut".toList :: r) : P.make = some .cut := by unfold Program.make; rw [h1, h2]; kernel_rfl
theorem head_make : Try.prog.make = some .cut := by obtain ⟨r, hr⟩ := head_words; exact make_of head_signs hr
theorem head_laidOut : laidOutB Try.prog = true := by kernel_rfl
theorem head_mapsRowed : mapsRowed Try.prog = true := by kernel_rfl
theorem head_stops : (Try.prog.stops == []) = true := by kernel_rfl
theorem head_stopKnobs : (Try.prog.stopKnobs == []) = true := by kernel_rfl
theorem head_plainKeys : Try.prog.plainKeys = true := by kernel_rfl
theorem head_stopsHeard : Try.prog.stopsHeard = true := by kernel_rfl
end Go.Proofs.Ytacgeafjilipdaa.P
namespace Go.Proofs.Ytacgeafjilipdaa.Pure
open Go.RowKit Go.Proofs.Ytacgeafjilipdaa.P Go.Proofs.YtacgeafjilipdaaW.PrintWords
theorem ResetGoes : ∀ (x0 : S64) (x1 : S64) (x2 : S64), wf64 x0 → wf64 x1 → wf64 x2 → tidepolelaw11_ResetGoes.f x0.f0 x0.f1 x0.f2 x0.f3 x0.f4 x0.f5 x0.f6 x0.f7 x0.f8 x1.f0 x1.f1 x1.f2 x1.f3 x1.f4 x1.f5 x1.f6 x1.f7 x1.f8 x2.f0 x2.f1 x2.f2 x2.f3 x2.f4 x2.f5 x2.f6 x2.f7 x2.f8 = some true := fun _ _ _ h0 h1 h2 => if_pos ⟨wfI_of h0, wfI_of h1, wfI_of h2⟩
end Go.Proofs.Ytacgeafjilipdaa.Pure
namespace Go.Proofs.Ytacgeafjilipdaa.resetGoes
open Go.ChangeShapes Go.WideShapes Go.ChangeAt Go.RowKit Go.Proofs.Ytacgeafjilipdaa.P Go.Proofs.YtacgeafjilipdaaW.PrintWords
set_option linter.unusedVariables false
theorem own : ownKnob Try.prog.godebug = none := by kernel_rfl
theorem laidOut : laidOutB Try.prog = true := by kernel_rfl
set_option maxRecDepth 100000 in
set_option maxHeartbeats 4000000 in
theorem lifted (os : Os) (started : os.Started) (H : Type) (enc : TypeId × Value → H) :
    ReturnsInHanded {} Try.checked os 11 .any (Rows.resetGoesSpec.pre6 enc Try.prog Try.f11 Rows.resetGoesRow.domain false) (Rows.resetGoesSpec.post enc Try.prog Try.f11 false true false false) := by
  refine returnsInHanded_of_change_sized (C := Try.checked) own started (by kernel_rfl) Try.func11
    (ChangeSpec.witness6 (enc := enc) (C := Try.checked) false ⟨#[], #[.agg #[.int .i64 0, .int .u64 0, .int .u64 0, .int .u64 0, .int .u64 0, .slice none 0 0, .slice none 0 0, .slice none 0 0, .slice none 0 0], .agg #[.int .i64 0, .int .u64 0, .int .u64 0, .int .u64 0, .int .u64 0, .slice none 0 0, .slice none 0 0, .slice none 0 0, .slice none 0 0], .agg #[.int .i64 0, .int .u64 0, .int .u64 0, .int .u64 0, .int .u64 0, .slice none 0 0, .slice none 0 0, .slice none 0 0, .slice none 0 0]], []⟩ 8 (by kernel_rfl) (by kernel_rfl) (by kernel_rfl) (by kernel_rfl)) ?_
  intro W base args ds gs before hval0 hW hcnd hsz0 _
  have hval : ∀ (j : Nat) t v, Try.f11.params[j]? = some t → args[j]? = some v → Value.okWide Try.prog W .any base t v := hval0
  have hW' := hW
  obtain ⟨p, q, hA0, hV, rfl, hfz, hnd⟩ := hW
  have hA : DataW.TrodAll enc Try.prog W 0 (fun _ => true) true Try.f11.params.toList args.toList ds p := hA0
  rw [Try.params11] at hA hval
  obtain ⟨v0, vs0, d0, ds0, p0, q0, hargs, rfl, rfl, h0, r0⟩ := trodAll_cons hA
  obtain ⟨v1, vs1, d1, ds1, p1, q1, rfl, rfl, rfl, h1, r1⟩ := trodAll_cons r0
  obtain ⟨v2, vs2, d2, ds2, p2, q2, rfl, rfl, rfl, h2, r2⟩ := trodAll_cons r1
  obtain ⟨rfl, rfl, rfl⟩ := trodAll_nil r2
  obtain rfl : args = #[v0, v1, v2] := by cases args; simp_all
  obtain ⟨rfl, rfl⟩ := trodVars_none hV
  have k0 := h0
  have lt0 : ∀ x ∈ p0, x.block < W.heap.size := by obtain ⟨m, hm⟩ := k0; exact DataW.trod_lt m _ _ _ hm
  obtain ⟨fu0, hf0⟩ := h0
  obtain ⟨x0, hK0, w0⟩ := opens64 enc W 0 _ true fu0 _ _ hf0
  obtain ⟨cs0, rfl, _⟩ := okWide_struct Try.underlying64 (hval 0 64 v0 rfl rfl)
  obtain ⟨A0_5, c0_5, A0_6, c0_6, A0_7, c0_7, A0_8, c0_8, he0, h0_5_l, hC0_5, h0_6_l, hC0_6, h0_7_l, hC0_7, h0_8_l, hC0_8⟩ := k64_open hK0
  obtain rfl : cs0 = #[.int .i64 x0.f0, .int .u64 x0.f1, .int .u64 x0.f2, .int .u64 x0.f3, .int .u64 x0.f4, .slice A0_5 x0.f5.length c0_5, .slice A0_6 x0.f6.length c0_6, .slice A0_7 x0.f7.length c0_7, .slice A0_8 x0.f8.length c0_8] := by
    have he : cs0.toList = _ := he0
    exact Array.toList_inj.1 he
  have k1 := h1
  have lt1 : ∀ x ∈ p1, x.block < W.heap.size := by obtain ⟨m, hm⟩ := k1; exact DataW.trod_lt m _ _ _ hm
  obtain ⟨fu1, hf1⟩ := h1
  obtain ⟨x1, hK1, w1⟩ := opens64 enc W 0 _ true fu1 _ _ hf1
  obtain ⟨cs1, rfl, _⟩ := okWide_struct Try.underlying64 (hval 1 64 v1 rfl rfl)
  obtain ⟨A1_5, c1_5, A1_6, c1_6, A1_7, c1_7, A1_8, c1_8, he1, h1_5_l, hC1_5, h1_6_l, hC1_6, h1_7_l, hC1_7, h1_8_l, hC1_8⟩ := k64_open hK1
  obtain rfl : cs1 = #[.int .i64 x1.f0, .int .u64 x1.f1, .int .u64 x1.f2, .int .u64 x1.f3, .int .u64 x1.f4, .slice A1_5 x1.f5.length c1_5, .slice A1_6 x1.f6.length c1_6, .slice A1_7 x1.f7.length c1_7, .slice A1_8 x1.f8.length c1_8] := by
    have he : cs1.toList = _ := he1
    exact Array.toList_inj.1 he
  have k2 := h2
  have lt2 : ∀ x ∈ p2, x.block < W.heap.size := by obtain ⟨m, hm⟩ := k2; exact DataW.trod_lt m _ _ _ hm
  obtain ⟨fu2, hf2⟩ := h2
  obtain ⟨x2, hK2, w2⟩ := opens64 enc W 0 _ true fu2 _ _ hf2
  obtain ⟨cs2, rfl, _⟩ := okWide_struct Try.underlying64 (hval 2 64 v2 rfl rfl)
  obtain ⟨A2_5, c2_5, A2_6, c2_6, A2_7, c2_7, A2_8, c2_8, he2, h2_5_l, hC2_5, h2_6_l, hC2_6, h2_7_l, hC2_7, h2_8_l, hC2_8⟩ := k64_open hK2
  obtain rfl : cs2 = #[.int .i64 x2.f0, .int .u64 x2.f1, .int .u64 x2.f2, .int .u64 x2.f3, .int .u64 x2.f4, .slice A2_5 x2.f5.length c2_5, .slice A2_6 x2.f6.length c2_6, .slice A2_7 x2.f7.length c2_7, .slice A2_8 x2.f8.length c2_8] := by
    have he : cs2.toList = _ := he2
    exact Array.toList_inj.1 he
  clear hA0 hval0 hsz0
  obtain hk := Pure.ResetGoes x0 x1 x2 w0 w1 w2
  refine (P.tidepolelaw11_ResetGoes.calls x0.f0 x0.f1 x0.f2 x0.f3 x0.f4 A0_5 c0_5 x0.f5 A0_6 c0_6 x0.f6 A0_7 c0_7 x0.f7 A0_8 c0_8 x0.f8 x1.f0 x1.f1 x1.f2 x1.f3 x1.f4 A1_5 c1_5 x1.f5 A1_6 c1_6 x1.f6 A1_7 c1_7 x1.f7 A1_8 c1_8 x1.f8 x2.f0 x2.f1 x2.f2 x2.f3 x2.f4 A2_5 c2_5 x2.f5 A2_6 c2_6 x2.f6 A2_7 c2_7 x2.f7 A2_8 c2_8 x2.f8 true W hC0_5 h0_5_l hC0_6 h0_6_l hC0_7 h0_7_l hC0_8 h0_8_l hC1_5 h1_5_l hC1_6 h1_6_l hC1_7 h1_7_l hC1_8 h1_8_l hC2_5 h2_5_l hC2_6 h2_6_l hC2_7 h2_7_l hC2_8 h2_8_l hk).mono fun e W' ⟨he, bel⟩ => ?_
  subst he
  exact ⟨_, rfl, _, _, _, [], _, [], hW', trodAll_mk1 (shut_bool Try.underlying4 _), (trodAll_cons_mk (Below.trod laidOut (by kernel_rfl) (of_decide_eq_true (by kernel_rfl)) k0 bel lt0) (trodAll_cons_mk (Below.trod laidOut (by kernel_rfl) (of_decide_eq_true (by kernel_rfl)) k1 bel lt1) (trodAll_cons_mk (Below.trod laidOut (by kernel_rfl) (of_decide_eq_true (by kernel_rfl)) k2 bel lt2) trodAll_mk0))), rfl, bel.frame _, fun h => by cases h⟩
theorem cf0 : (Rows.resetGoesRow.wf (OpenSpec.ofChange Rows.resetGoesSpec)) = true := by kernel_rfl
theorem cf1 : (laidOutB Try.prog) = true := P.head_laidOut
theorem cf2 : (mapsRowed Try.prog) = true := P.head_mapsRowed
theorem cf3 : (Try.f11.params.all (Try.prog.readableRec ·)) = true := by kernel_rfl
theorem cf4 : (namedTie Try.prog Rows.resetGoesRow.named Rows.resetGoesSpec.vars) = true := by kernel_rfl
theorem cf5 : ((Rows.resetGoesRow.stops == [])) = true := by kernel_rfl
theorem cf6 : ((Try.prog.stops == [])) = true := P.head_stops
theorem cf7 : ((Rows.resetGoesRow.knobs == [])) = true := by kernel_rfl
theorem cf8 : ((Try.prog.stopKnobs == [])) = true := P.head_stopKnobs
theorem cf9 : ((Rows.resetGoesRow.inPlace == Try.prog.inPlace 11)) = true := by kernel_rfl
theorem cf10 : ((Rows.resetGoesRow.unfollowed == Try.prog.unfollowed 11)) = true := by kernel_rfl
theorem cf11 : ((Rows.resetGoesRow.recurses == Try.prog.recurses 11)) = true := by kernel_rfl
theorem cf12 : ((Rows.resetGoesRow.named == Try.prog.varsNamed 11)) = true := by kernel_rfl
theorem cf13 : ((Rows.resetGoesRow.maps == (Try.f11.params.toList ++ Rows.resetGoesSpec.plain.varTypes Try.prog).any (Try.prog.mapsRec ·))) = true := by kernel_rfl
theorem cf14 : ((Rows.resetGoesRow.ifaces == (Try.f11.params.toList ++ Rows.resetGoesSpec.plain.varTypes Try.prog).any (Try.prog.ifacesRec ·))) = true := by kernel_rfl
theorem cf15 : ((Rows.resetGoesRow.mapsOut == Try.prog.mapsAmong Try.f11.resultTypes.toList)) = true := by kernel_rfl
theorem cf16 : ((Rows.resetGoesRow.loops == (Try.f11.params.toList ++ Rows.resetGoesSpec.plain.varTypes Try.prog).any (Try.prog.loopsFrom ·))) = true := by kernel_rfl
theorem cf17 : ((Rows.resetGoesRow.wideKeys == (Try.f11.params.toList ++ Rows.resetGoesSpec.plain.varTypes Try.prog ++ Try.f11.resultTypes.toList).any (Try.prog.wideKeysFrom ·))) = true := by kernel_rfl
theorem cf18 : (Rows.resetGoesSpec.vars.all (Try.prog.varReadable ·)) = true := by kernel_rfl
theorem cf19 : (Try.f11.resultTypes.all (fun t => Try.prog.readableRec t && decide (t < Try.prog.types.size))) = true := by kernel_rfl
theorem cf20 : ((Rows.resetGoesRow.ifacesOut == Try.f11.resultTypes.toList.any (Try.prog.ifacesRec ·))) = true := by kernel_rfl
theorem cf21 : ((Rows.resetGoesRow.loopsOut == Try.f11.resultTypes.toList.any (Try.prog.loopsFrom ·))) = true := by kernel_rfl
theorem cf22 : ((Rows.resetGoesRow.plainKeys == Try.prog.plainKeys)) = true := by rw [P.head_plainKeys]; kernel_rfl
theorem cf23 : (Rows.resetGoesRow.shortTexts.isNone) = true := by kernel_rfl
theorem cf24 : (Try.prog.stopsHeard) = true := P.head_stopsHeard
theorem cf25 : (Try.prog.mayEnter) = true := P.head_mayEnter
theorem cf26 : ((Rows.resetGoesRow.lifted == Try.prog.liftsFinal)) = true := by rw [P.head_liftsFinal]; kernel_rfl
theorem cf27 : ((Try.prog.make == some Rows.resetGoesRow.make)) = true := by rw [P.head_make]; kernel_rfl
theorem cf28 : ((Rows.resetGoesRow.kinds == (if Rows.resetGoesRow.domain.isEmpty then [] else Try.f11.params.toList.map fun t => match Try.prog.underlying t with | some (.int k) => some k | _ => none))) = true := by kernel_rfl
theorem cf29 : ((Rows.resetGoesRow.pinned == Rows.resetGoesRow.pinnedBy)) = true := by kernel_rfl
theorem cf30 : ((Rows.resetGoesRow.veiled == (Try.f11.params.toList ++ Rows.resetGoesSpec.plain.varTypes Try.prog ++ Try.f11.resultTypes.toList).any (Try.prog.veiledRec ·))) = true := by kernel_rfl
theorem cf31 : (Rows.resetGoesRow.veiledFits Try.prog Try.f11.params.toList (Try.f11.params.toList ++ Rows.resetGoesSpec.plain.varTypes Try.prog ++ Try.f11.resultTypes.toList)) = true := by kernel_rfl
theorem band_mk {a b : Bool} (h : a = true) (k : b = true) : (a && b) = true := by rw [h, k]; rfl
theorem closed : joinedFacts Try.prog 11 Try.f11 Rows.resetGoesSpec Rows.resetGoesRow = true := by unfold joinedFacts; exact (band_mk (band_mk (band_mk (band_mk (band_mk (band_mk (band_mk (band_mk (band_mk (band_mk (band_mk (band_mk (band_mk (band_mk (band_mk (band_mk (band_mk (band_mk (band_mk (band_mk (band_mk (band_mk (band_mk (band_mk (band_mk (band_mk (band_mk (band_mk (band_mk (band_mk (band_mk cf0 cf1) cf2) cf3) cf4) cf5) cf6) cf7) cf8) cf9) cf10) cf11) cf12) cf13) cf14) cf15) cf16) cf17) cf18) cf19) cf20) cf21) cf22) cf23) cf24) cf25) cf26) cf27) (by kernel_rfl)) cf29) cf30) cf31)
theorem over : Rows.resetGoesRow.holds Try.pinned (OpenSpec.ofChange Rows.resetGoesSpec) :=
  OpenClaim.holds_of_wide 11 Try.f11 rfl rfl rfl rfl rfl rfl rfl ⟨rfl, rfl, rfl, rfl, rfl⟩ rfl rfl rfl rfl rfl (by kernel_rfl) Try.func11 closed
    (of_decide_eq_true (by kernel_rfl)) (by unfold Func.isWrapper; first | (rw [if_pos (by decide +kernel)]; kernel_rfl) | (rw [if_neg (by decide +kernel)]; exact ⟨rfl, rfl⟩))
    (fun os started H enc _ => lifted os started H enc)
theorem proved : Rows.ResetGoesSaid := over
#print axioms proved
end Go.Proofs.Ytacgeafjilipdaa.resetGoes
namespace Go.Proofs.Ytacgeafjilipdaa
theorem resetGoes_holds : Rows.ResetGoesSaid := resetGoes.proved
end Go.Proofs.Ytacgeafjilipdaa
