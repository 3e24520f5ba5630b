/- ScaleFits: the part that this text bears of the proof that the statement answers true for every input. No condition. -/
import Derived.Test.YtooiccpmngmapaaProg
import Derived.Below
import Derived.Deep.Draws
import Derived.Deep.AppendLies
import Derived.Maps.AppendAt
import Derived.OwnWalk
import Derived.Laws.BytesArg
import Derived.Laws.MakeOwn
import Derived.Laws.OwnMore
import Derived.Deep.OwnRows
import Derived.Tactics
import Derived.Lib.ConvBytes
import Derived.Laws.Slices
import Derived.WalkKit
import Derived.KernelRfl
import Derived.RowKit3
import Derived.Deep.LoopGhost
import Derived.Deep.QuietTactic
import Derived.BigQuiet
import Derived.WideLaws
import Derived.Deep.DeepCutAuto
import Derived.Deep.CutBlock
import Derived.Deep.RegionHeld3
import Derived.Laws.Rows
import Derived.Lib.AppendStr
import Derived.ArgAppend
import Derived.Laws.IdiomCopy
import Derived.OrdersHeld
import Derived.Laws.BitsLemmas
import Derived.RowKit
import Derived.Deep.Slices
import Derived.ChangeArms
import Derived.Shelf.Abstract
import Derived.WalkSpells
import Derived.RangeFuncNested
import Derived.RangeFuncBound
import Derived.RangeFuncCalls
import Derived.RangeFuncLeaves
import Derived.RangeFuncBox
import Derived.OwnWalkIn
import Derived.TacticsInMore
import Derived.LoopNIn
import Derived.LoopIn
import Derived.Laws.Externs
import Derived.Shelf.Spec.BitsCarry
import Derived.RegionIn
import Derived.Sort.QuietTacIn
import Derived.Deep.RegionWith
import Derived.Laws.BitsAllLaws
import Derived.Outline
import Derived.Laws.Tables
import Derived.Deep.WholeRow
import Derived.Laws.CopyOwn
import Derived.Laws.ResultCell
import Derived.ProofKit
import Derived.JoinedOf
import Derived.OpenShut
import Derived.ShutString
import Derived.ChangeOld
import Derived.SizedLaws
import Derived.JoinedTies
import Derived.Laws.StructEq
import Derived.Test.YtooiccpmngmapaaChecked
import GoSem.Claim
import GoSem.ClaimJoined
import GoSem.ClaimMapViews
import Derived.Test.YtooiccpmngmapaaQScaleFitsWWords
import Derived.Test.YtooiccpmngmapaaQScaleFitsWLast
import Derived.Test.YtooiccpmngmapaaQScaleFitsWTab
import Derived.Test.YtooiccpmngmapaaQScaleFitsWFour
import Derived.Test.YtooiccpmngmapaaQScaleFitsWQPut
import Derived.Test.YtooiccpmngmapaaQScaleFitsWApart
import Derived.Test.YtooiccpmngmapaaQScaleFitsWArr
import Derived.Test.YtooiccpmngmapaaQScaleFitsWZeros
import Derived.Test.YtooiccpmngmapaaQScaleFitsWFoot
import Derived.Test.YtooiccpmngmapaaQScaleFitsWKept
import Derived.Test.YtooiccpmngmapaaQScaleFitsWShare
import Derived.Test.YtooiccpmngmapaaQScaleFitsWN
import Derived.Test.YtooiccpmngmapaaQScaleFitsWFootNe
import Derived.Test.YtooiccpmngmapaaQScaleFitsWAt
import Derived.Test.YtooiccpmngmapaaQScaleFitsWEqStruct
import Derived.Test.YtooiccpmngmapaaQScaleFitsWRepsOne
import Derived.Test.YtooiccpmngmapaaQScaleFitsWInv
import Derived.Test.YtooiccpmngmapaaQScaleFitsWInvWords
import Derived.Test.YtooiccpmngmapaaQScaleFitsWGuard
import Derived.Test.YtooiccpmngmapaaQScaleFitsWNEv
import Derived.Test.YtooiccpmngmapaaQScaleFitsWMore
import Derived.Test.YtooiccpmngmapaaRows
import Derived.Test.YtooiccpmngmapaaQScaleFits0
import Derived.Test.YtooiccpmngmapaaQScaleFits1
import Derived.Test.YtooiccpmngmapaaQScaleFits2
import Derived.Test.YtooiccpmngmapaaQScaleFits3
import Derived.Test.YtooiccpmngmapaaQScaleFits4
set_option linter.unusedVariables false
set_option linter.unusedSimpArgs false
namespace Go.Proofs.Ytooiccpmngmapaa.P
open Go.RowKit Go.Proofs.YtooiccpmngmapaaW.PrintWords Go.Proofs.YtooiccpmngmapaaW.PrintLast Go.Proofs.YtooiccpmngmapaaW.PrintMore
attribute [local go_sem] max2_int min2_int max_two min_two max_three min_three max_four min_four
def tidepoleref25_some.l0 : Nat → List Int → List Int → List Int → Int → Option (List Int)
 | 0, _, _, _, _ => none
 | k + 1, x0, x1, x5, x6 => if x6 < (x0.length : Int) then (if 0 ≤ x6 then (if x6 < (x1.length : Int) then (if (rd x1 x6) > 0 then (if x5.length < 17592186044416 then (tidepoleref25_some.l0 k x0 x1 (x5 ++ [rd x0 x6]) (wrap64 (x6 + 1))) else (none)) else (tidepoleref25_some.l0 k x0 x1 x5 (wrap64 (x6 + 1)))) else (none)) else (none)) else (some x5)
def tidepoleref25_some.f (k : Nat) (l0 : List Int) (l1 : List Int) : Option (List Int) := tidepoleref25_some.l0 k l0 l1 ([] : List Int) 0
set_option maxHeartbeats 8000000 in
set_option maxRecDepth 100000 in
theorem tidepoleref25_some.calls (k : Nat) (A0 : Option Addr) (c0 : Nat) (l0 : List Int) (A1 : Option Addr) (c1 : Nat) (l1 : List Int) (r : List Int) (w : World) (hr0 : Kd.C (Kd.int .i64) w A0 l0.length l0) (hc0 : l0.length ≤ c0) (hr1 : Kd.C (Kd.int .i64) w A1 l1.length l1) (hc1 : l1.length ≤ c1) (h : tidepoleref25_some.f k l0 l1 = some r) :
  Calls Try.prog 104 #[.slice A0 l0.length c0, .slice A1 l1.length c1] w fun e w' => ∃ v0_ : Value, e = .returned (v0_) ∧ Kd.R (Kd.int .i64) 3 w' w.heap.size (fun _ => True) v0_ r ∧ Below w.heap.size w w' := by
 have HR0 := Aside0.mk hr0
 have HC0 := Aside0.mk hc0
 clear hr0 hc0
 have HR1 := Aside0.mk hr1
 have HC1 := Aside0.mk hc1
 clear hr1 hc1
 have HB := Aside0.mk (Below.refl w.heap.size w)
 have H : (tidepoleref25_some.l0 k l0 l1 ([] : List Int) 0) = some r := h
 clear h
 have H' := Aside0.mk H
 clear H
 go_enter Try.func104, Try.ntmps104
 go_wp2
 go_loopg [5, 6] k (fun kq v5 v6 w' => ∃ (x5_1 : List Int) (x6_1 : Int), v6 = .int .i64 x6_1 ∧ Aside0 (tidepoleref25_some.l0 kq l0 l1 x5_1 x6_1 = some r) ∧ Aside0 (kq ≤ k) ∧ Aside0 (Kd.R (Kd.int .i64) 3 w' w.heap.size (fun _ => True) v5 x5_1) ∧ Aside0 (Below w.heap.size w w'))
 case atStart => exact ⟨(([] : List Int)), (0), (by first | rfl | (simp; done) | (simp [*]; done)), H', ⟨Nat.le_refl _⟩, ⟨by first | exact Kd.R_nil _ _ _ _ _ | exact Kd.N_nil _ _ _ _ _ | exact Kd.V_nil _ _ _ _ _ | exact Kd.Q_nil _ _ _ _ _ | exact Kd.S_nil _ _ _ _ _⟩, ⟨by repeat (first | (with_reducible first | exact HB.out | apply below_alloc | apply pw_below_drewN | apply below_drew1) | exact HB.out)⟩⟩
 case round =>
  clear H'
  try clear c1
  try clear p2
  obtain ⟨x5_1, x6_1, rfl, HA, HK1, HO_5, HB⟩ := hrel
  cases gk with
  | zero => exact absurd HA.out (by simp [tidepoleref25_some.l0])
  | succ k1 =>
   have H := HA.out
   clear HA
   simp only [tidepoleref25_some.l0] at H
   by_cases c3 : x6_1 < (l0.length : Int)
   ·rw [if_pos c3] at H
    have c3b0 : decide (x6_1 < (l0.length : Int)) = true := decide_eq_true c3
    clear c3
    by_cases c4 : 0 ≤ x6_1
    ·rw [if_pos c4] at H
     have c4b0 : decide (0 ≤ x6_1) = true := decide_eq_true c4
     clear c4
     by_cases c5 : x6_1 < (l1.length : Int)
     ·rw [if_pos c5] at H
      have c5b0 : decide (x6_1 < (l1.length : Int)) = true := decide_eq_true c5
      clear c5
      by_cases c6 : (rd l1 x6_1) > 0
      ·rw [if_pos c6] at H
       have c6b0 : decide (0 < (rd l1 x6_1)) = true := decide_eq_true c6
       clear c6
       by_cases c7 : x5_1.length < 17592186044416
       ·rw [if_pos c7] at H
        have LMc7 := Aside0.mk c7
        clear c7
        obtain ⟨y103, hy103⟩ : ∃ y_ : List Int, y_ = (x5_1 ++ [rd l0 x6_1]) := ⟨_, rfl⟩
        replace H : (tidepoleref25_some.l0 k1 l0 l1 y103 (wrap64 (x6_1 + 1))) = some r := by first | (rw [hy103]; with_reducible exact H) | (have H2_ := (Option.bind_some _ _).symm.trans H; rw [hy103]; with_reducible exact H2_) | (have H2_ := (Option.bind_some _ _).symm.trans H; with_reducible exact H2_) | with_reducible exact H | (rw [hy103]; exact H) | exact H
        have Ny103 := Aside0.mk hy103
        clear hy103
        have H' := Aside0.mk H
        clear H
        have p101 : 0 ≤ (x6_1 : Int) := of_decide_eq_true (by assumption)
        have q101 : x6_1 < (l1.length : Int) := of_decide_eq_true (by assumption)
        obtain ⟨ad101, e101, hx101_0⟩ := Kd.at_int HR1.out x6_1 p101 q101
        cases e101
        replace hx101_0 := (HB.out.cell (World.block_lt_of_cell? w _ hx101_0)).trans hx101_0
        replace p101 := eq_true p101
        replace q101 := eq_true q101
        have p102 : 0 ≤ (x6_1 : Int) := of_decide_eq_true (by assumption)
        have q102 : x6_1 < (l0.length : Int) := of_decide_eq_true (by assumption)
        obtain ⟨ad102, e102, hx102_0⟩ := Kd.at_int HR0.out x6_1 p102 q102
        cases e102
        replace hx102_0 := (HB.out.cell (World.block_lt_of_cell? w _ hx102_0)).trans hx102_0
        replace p102 := eq_true p102
        replace q102 := eq_true q102
        go_wp2_with (first | ((with_reducible refine gate_builtin (b := .append) (xs := #[.tmp 18, .tmp 23]) rfl ?_); at_builtin; refine Kd.R_append (Kd.int .i64) (w0 := w) w.heap.size rfl (.tmp 18) (.tmp 23) 30 3 (.int .i64 0) 8 rfl Try.underlying30 info3 rfl (by decide) (by omega) u5 x5_1 (rd l0 x6_1) [.int .i64 (rd l0 x6_1)] (fun _ => True) (fun _ => False) rfl rfl ?aP (fun _ hk => hk.elim) ?aF ?aO ?aB ?aS ?aL ?_; (case aP => exact rfl); (case aB => exact (below_u HB.out)); (case aF => exact (fun _ _ => trivial)); (case aO => exact (Kd.R_u HO_5.out)); (case aS => exact (below_size (below_u HB.out))); (case aL => have := LMc7.out; omega); intro v104 w8 ho hb hg hat; rw [← Ny103.out] at ho; have HO105 := Aside0.mk (ho); replace HB := Aside0.mk (hb); clear HO_5; clear ho hb hg hat))
        go_roundg k1
        case measure => have := HK1.out; omega
        case rel => exact ⟨(y103), (wrap64 (x6_1 + 1)), (by first | rfl | (simp; done) | (simp [*]; done)), H', ⟨by have := HK1.out; omega⟩, ⟨by (repeat with_reducible refine Kd.R_q ?_); exact HO105.out⟩, ⟨by repeat (first | (with_reducible first | exact HB.out | apply below_alloc | apply pw_below_drewN | apply below_drew1) | exact HB.out)⟩⟩
       rw [if_neg c7] at H
       exact absurd H (by simp)
      rw [if_neg c6] at H
      have c6b0 : decide (0 < (rd l1 x6_1)) = false := decide_eq_false c6
      clear c6
      have H' := Aside0.mk H
      clear H
      have p101 : 0 ≤ (x6_1 : Int) := of_decide_eq_true (by assumption)
      have q101 : x6_1 < (l1.length : Int) := of_decide_eq_true (by assumption)
      obtain ⟨ad101, e101, hx101_0⟩ := Kd.at_int HR1.out x6_1 p101 q101
      cases e101
      replace hx101_0 := (HB.out.cell (World.block_lt_of_cell? w _ hx101_0)).trans hx101_0
      replace p101 := eq_true p101
      replace q101 := eq_true q101
      go_wp2
      go_roundg k1
      case measure => have := HK1.out; omega
      case rel => exact ⟨(x5_1), (wrap64 (x6_1 + 1)), (by first | rfl | (simp; done) | (simp [*]; done)), H', ⟨by have := HK1.out; omega⟩, ⟨by (repeat with_reducible refine Kd.R_q ?_); exact HO_5.out⟩, ⟨by repeat (first | (with_reducible first | exact HB.out | apply below_alloc | apply pw_below_drewN | apply below_drew1) | exact HB.out)⟩⟩
     rw [if_neg c5] at H
     exact absurd H (by simp)
    rw [if_neg c4] at H
    exact absurd H (by simp)
   rw [if_neg c3] at H
   have c3b0 : decide (x6_1 < (l0.length : Int)) = false := decide_eq_false c3
   clear c3
   obtain rfl := Option.some.inj H
   go_wp2
   go_ret
   exact ⟨_, by first | rfl | (simp [errW_none, errW_some] <;> rfl) | (simp [*, errW_none, errW_some] <;> rfl), by (repeat with_reducible refine Kd.R_q ?_); exact HO_5.out, by repeat (first | (with_reducible first | exact HB.out | apply below_alloc | apply pw_below_drewN | apply below_drew1) | exact HB.out)⟩
end Go.Proofs.Ytooiccpmngmapaa.P
namespace Go.Proofs.Ytooiccpmngmapaa.P
open Go.RowKit Go.Proofs.YtooiccpmngmapaaW.PrintWords Go.Proofs.YtooiccpmngmapaaW.PrintLast Go.Proofs.YtooiccpmngmapaaW.PrintMore
attribute [local go_sem] max2_int min2_int max_two min_two max_three min_three max_four min_four
def tidepoleref25_Many.f (k : Nat) (a0_0 : Int) (a0_1 : Int) (a0_2 : Int) (a0_3 : Int) (a0_4 : Int) (l0_5 : List (S127)) (l0_6 : List (S127)) (l0_7 : List Int) (l0_8 : List Int) (a1 : Int) : Option (Int) := (tidepoleref09_Side.f k l0_5 l0_7).bind fun bt102 => ((tidepoleref09_Side.f k l0_6 l0_8).bind fun bt109 => ((tidepoleref25_some.f k bt102.1 bt102.2.1).bind fun t116 => ((tidepoleref25_wide.f k t116 (wrap64 (a0_0 - a1))).bind fun t119 => ((tidepoleref25_some.f k bt109.1 bt109.2.1).bind fun t122 => ((tidepoleref25_wide.f k t122 (wrap64 (a0_0 - a1))).bind fun t125 => (some (wrap64 ((t119.length : Int) + (t125.length : Int)))))))))
def tidepoleref25_Many.T3 : Bool × List (List Nat × List Nat) := (true, [([], []), ([], []), ([0, 1], [0, 1]), ([], []), ([3], [3]), ([], []), ([4, 5], [4, 5]), ([2, 6, 2], [2, 6]), ([7], [7]), ([], []), ([], []), ([9, 10, 7], [9, 10]), ([], []), ([12], [12]), ([], []), ([13, 14], [13, 14]), ([11, 15, 11], [11, 15]), ([16], [16]), ([8, 17], [8, 17]), ([18, 16, 0, 1, 2, 3, 4, 5, 6, 7, 8, 9, 10, 11, 12, 13, 14, 15, 16, 17, 18], [18])])
def tidepoleref25_Many.B3 : List Nat := [0, 0, 3, 0, 8, 0, 56, 127, 255, 0, 0, 1791, 0, 4096, 0, 28672, 65279, 130815, 262143, 524287]
theorem tidepoleref25_Many.tab3 : rtab .any (opsOf Try.f40 3) = tidepoleref25_Many.T3 := by kernel_rfl
theorem tidepoleref25_Many.bits3 : waitsOk tidepoleref25_Many.T3.2 tidepoleref25_Many.B3 = true := by kernel_rfl
set_option maxHeartbeats 8000000 in
set_option maxRecDepth 100000 in
theorem tidepoleref25_Many.calls (k : Nat) (a0_0 : Int) (a0_1 : Int) (a0_2 : Int) (a0_3 : Int) (a0_4 : Int) (A0_5 : Option Addr) (c0_5 : Nat) (l0_5 : List (S127)) (A0_6 : Option Addr) (c0_6 : Nat) (l0_6 : List (S127)) (A0_7 : Option Addr) (c0_7 : Nat) (l0_7 : List Int) (A0_8 : Option Addr) (c0_8 : Nat) (l0_8 : List Int) (a1 : Int) (r : Int) (w : World) (hr0_5 : Kd.C k127 w A0_5 l0_5.length l0_5) (hc0_5 : l0_5.length ≤ c0_5) (hr0_6 : Kd.C k127 w A0_6 l0_6.length l0_6) (hc0_6 : l0_6.length ≤ c0_6) (hr0_7 : Kd.C (Kd.int .i64) w A0_7 l0_7.length l0_7) (hc0_7 : l0_7.length ≤ c0_7) (hr0_8 : Kd.C (Kd.int .i64) w A0_8 l0_8.length l0_8) (hc0_8 : l0_8.length ≤ c0_8) (h : tidepoleref25_Many.f k a0_0 a0_1 a0_2 a0_3 a0_4 l0_5 l0_6 l0_7 l0_8 a1 = some r) :
  Calls Try.prog 40 #[.agg #[.int .i64 a0_0, .int .u64 a0_1, .int .u64 a0_2, .int .u64 a0_3, .int .u64 a0_4, .slice A0_5 l0_5.length c0_5, .slice A0_6 l0_6.length c0_6, .slice A0_7 l0_7.length c0_7, .slice A0_8 l0_8.length c0_8], .int .i64 a1] w fun e w' => e = .returned (.int .i64 r) ∧ Below w.heap.size w w' := by
 have hu41 := Try.underlying41
 have HR0_5 := Aside0.mk hr0_5
 have HC0_5 := Aside0.mk hc0_5
 clear hr0_5 hc0_5
 have HR0_6 := Aside0.mk hr0_6
 have HC0_6 := Aside0.mk hc0_6
 clear hr0_6 hc0_6
 have HR0_7 := Aside0.mk hr0_7
 have HC0_7 := Aside0.mk hc0_7
 clear hr0_7 hc0_7
 have HR0_8 := Aside0.mk hr0_8
 have HC0_8 := Aside0.mk hc0_8
 clear hr0_8 hc0_8
 have HB := Aside0.mk (Below.refl w.heap.size w)
 have H : ((tidepoleref09_Side.f k l0_5 l0_7).bind fun bt102 => ((tidepoleref09_Side.f k l0_6 l0_8).bind fun bt109 => ((tidepoleref25_some.f k bt102.1 bt102.2.1).bind fun t116 => ((tidepoleref25_wide.f k t116 (wrap64 (a0_0 - a1))).bind fun t119 => ((tidepoleref25_some.f k bt109.1 bt109.2.1).bind fun t122 => ((tidepoleref25_wide.f k t122 (wrap64 (a0_0 - a1))).bind fun t125 => (some (wrap64 ((t119.length : Int) + (t125.length : Int)))))))))) = some r := h
 clear h
 replace H := Option.bind_eq_some_iff.mp H
 obtain ⟨⟨t102, t103, t104⟩, A30, H⟩ := H
 replace H : ((tidepoleref09_Side.f k l0_6 l0_8).bind fun bt109 => ((tidepoleref25_some.f k t102 t103).bind fun t116 => ((tidepoleref25_wide.f k t116 (wrap64 (a0_0 - a1))).bind fun t119 => ((tidepoleref25_some.f k bt109.1 bt109.2.1).bind fun t122 => ((tidepoleref25_wide.f k t122 (wrap64 (a0_0 - a1))).bind fun t125 => (some (wrap64 ((t119.length : Int) + (t125.length : Int))))))))) = some r := H
 have A3 := Aside0.mk A30
 clear A30
 replace H := Option.bind_eq_some_iff.mp H
 obtain ⟨⟨t109, t110, t111⟩, A40, H⟩ := H
 replace H : ((tidepoleref25_some.f k t102 t103).bind fun t116 => ((tidepoleref25_wide.f k t116 (wrap64 (a0_0 - a1))).bind fun t119 => ((tidepoleref25_some.f k t109 t110).bind fun t122 => ((tidepoleref25_wide.f k t122 (wrap64 (a0_0 - a1))).bind fun t125 => (some (wrap64 ((t119.length : Int) + (t125.length : Int)))))))) = some r := H
 have A4 := Aside0.mk A40
 clear A40
 replace H := Option.bind_eq_some_iff.mp H
 obtain ⟨t116, A50, H⟩ := H
 replace H : ((tidepoleref25_wide.f k t116 (wrap64 (a0_0 - a1))).bind fun t119 => ((tidepoleref25_some.f k t109 t110).bind fun t122 => ((tidepoleref25_wide.f k t122 (wrap64 (a0_0 - a1))).bind fun t125 => (some (wrap64 ((t119.length : Int) + (t125.length : Int))))))) = some r := H
 have A5 := Aside0.mk A50
 clear A50
 replace H := Option.bind_eq_some_iff.mp H
 obtain ⟨t119, A60, H⟩ := H
 replace H : ((tidepoleref25_some.f k t109 t110).bind fun t122 => ((tidepoleref25_wide.f k t122 (wrap64 (a0_0 - a1))).bind fun t125 => (some (wrap64 ((t119.length : Int) + (t125.length : Int)))))) = some r := H
 have A6 := Aside0.mk A60
 clear A60
 replace H := Option.bind_eq_some_iff.mp H
 obtain ⟨t122, A70, H⟩ := H
 replace H : ((tidepoleref25_wide.f k t122 (wrap64 (a0_0 - a1))).bind fun t125 => (some (wrap64 ((t119.length : Int) + (t125.length : Int))))) = some r := H
 have A7 := Aside0.mk A70
 clear A70
 replace H := Option.bind_eq_some_iff.mp H
 obtain ⟨t125, A80, H⟩ := H
 replace H : (some (wrap64 ((t119.length : Int) + (t125.length : Int)))) = some r := H
 have A8 := Aside0.mk A80
 clear A80
 obtain rfl := Option.some.inj H
 go_enter Try.func40, Try.ntmps40
 try go_wp2_with (first | ((with_reducible refine gate_dst (N := 2) rfl ?_); refine box_event ?hg (N := 2) ?hd (cs := #[.int .i64 a0_0, .int .u64 a0_1, .int .u64 a0_2, .int .u64 a0_3, .int .u64 a0_4, .slice A0_5 l0_5.length c0_5, .slice A0_6 l0_6.length c0_6, .slice A0_7 l0_7.length c0_7, .slice A0_8 l0_8.length c0_8]) (t := 41) ?hr ?_; (case hd => rfl); (case hg => rfl); (case hr => first | (go_simp; done) | (go_simp; rfl)); intro gb101 hg w9 hbox hb; have BK101 := Aside0.mk (hbox); have GW101 := Aside0.mk ((by rw [hg]; exact (below_size (below_u HB.out)) : w.heap.size ≤ gb101)); have GE101 := Aside0.mk ((by rw [hg]; exact (below_size (below_u HB.out)) : w.heap.size ≤ gb101)); replace HB := Aside0.mk (below_step (below_u HB.out) hb); clear hb hbox hg; have hcz10_0 := blk_cell BK101.out; have hfz10_0 := blk_frozen BK101.out) | ((with_reducible refine gate_callee (f := 82) rfl ?_); refine goesL_ (some 16) rfl rfl Try.func82 (by kernel_rfl) rfl #[.slice A0_5 l0_5.length c0_5, .slice A0_7 l0_7.length c0_7] rfl (by (try simp only [List.map_toArray, List.map_cons, List.map_nil]); first | done | rfl | (simp only [List.length_drop, List.length_take]; rfl)) ?_; (with_reducible refine (tidepoleref09_Side.calls k _ _ l0_5 _ _ l0_7 t102 t103 t104 _ ?side1 ?side2 ?side3 ?side4 A3.out).mono ?_); (case side1 => exact Kd.C_u (Kd.C_below HR0_5.out HB.out)); (case side2 => exact HC0_5.out); (case side3 => exact Kd.C_u (Kd.C_below HR0_7.out HB.out)); (case side4 => exact HC0_7.out); rintro e w11 ⟨v105, v107, rfl, ho0, ho1, hb⟩; refine ⟨_, rfl, ?_⟩; have HO106 := Aside0.mk (Kd.R_lower ho0 (below_size (by repeat (first | (with_reducible first | exact HB.out | refine below_q ?_ | refine below_set ?_ GE101.out) | exact HB.out)))); have HO108 := Aside0.mk (Kd.R_lower ho1 (below_size (by repeat (first | (with_reducible first | exact HB.out | refine below_q ?_ | refine below_set ?_ GE101.out) | exact HB.out)))); replace BK101 := Aside0.mk (blk_ub BK101.out hb); replace HB := Aside0.mk (below_step (by repeat (first | (with_reducible first | exact HB.out | refine below_q ?_ | refine below_set ?_ GE101.out) | exact HB.out)) hb); (try clear hb); (try clear hb2); (try clear hk); (try clear hi); (try clear ho0); (try clear ho1); clear A3; have hcz12_0 := blk_cell BK101.out; have hfz12_0 := blk_frozen BK101.out) | ((with_reducible refine gate_callee (f := 82) rfl ?_); refine goesL_ (some 25) rfl rfl Try.func82 (by kernel_rfl) rfl #[.slice A0_6 l0_6.length c0_6, .slice A0_8 l0_8.length c0_8] rfl (by (try simp only [List.map_toArray, List.map_cons, List.map_nil]); first | done | rfl | (simp only [List.length_drop, List.length_take]; rfl)) ?_; (with_reducible refine (tidepoleref09_Side.calls k _ _ l0_6 _ _ l0_8 t109 t110 t111 _ ?side1 ?side2 ?side3 ?side4 A4.out).mono ?_); (case side1 => exact Kd.C_u (Kd.C_below HR0_6.out HB.out)); (case side2 => exact HC0_6.out); (case side3 => exact Kd.C_u (Kd.C_below HR0_8.out HB.out)); (case side4 => exact HC0_8.out); rintro e w13 ⟨v112, v114, rfl, ho0, ho1, hb⟩; refine ⟨_, rfl, ?_⟩; have HO113 := Aside0.mk (Kd.R_lower (Kd.R_new' ho0 (Kd.R_lt (Kd.R_u HO106.out))) (below_size (by repeat (first | (with_reducible first | exact HB.out | refine below_q ?_ | refine below_set ?_ GE101.out) | exact HB.out)))); have HO115 := Aside0.mk (Kd.R_lower (Kd.R_new' ho1 (Kd.R_lt (Kd.R_u HO108.out))) (below_size (by repeat (first | (with_reducible first | exact HB.out | refine below_q ?_ | refine below_set ?_ GE101.out) | exact HB.out)))); replace HO106 := Aside0.mk (Kd.R_elder' (Kd.R_u HO106.out) (Kd.R_base ho0) hb); replace HO108 := Aside0.mk (Kd.R_elder' (Kd.R_u HO108.out) (Kd.R_base ho1) hb); replace BK101 := Aside0.mk (blk_ub BK101.out hb); replace HB := Aside0.mk (below_step (by repeat (first | (with_reducible first | exact HB.out | refine below_q ?_ | refine below_set ?_ GE101.out) | exact HB.out)) hb); (try clear hb); (try clear hb2); (try clear hk); (try clear hi); (try clear ho0); (try clear ho1); clear A4))
 have n0_ := Aside0.mk (Kd.R_drew HO106.out)
 have n1_ := Aside0.mk (Kd.R_drew HO108.out)
 have n2_ := Aside0.mk (Kd.R_drew HO113.out)
 have n3_ := Aside0.mk (Kd.R_drew HO115.out)
 have n4_ := Aside0.mk (blk_drew BK101.out)
 have n5_ := Aside0.mk (below_drew1 HB.out)
 clear HO106
 clear HO108
 clear HO113
 clear HO115
 clear BK101
 clear HB
 have HO106 := n0_
 have HO108 := n1_
 have HO113 := n2_
 have HO115 := n3_
 have BK101 := n4_
 have HB := n5_
 clear n0_ n1_ n2_ n3_ n4_ n5_
 obtain ⟨Ao15, co15, eo15⟩ := Kd.R_slice HO106.out
 (first | subst eo15 | (injection eo15 with f1_ f2_ f3_; have f4_ := f1_.symm; have f5_ := f3_.symm; clear f1_ f2_ f3_; subst f4_; subst f5_))
 obtain ⟨Ao16, co16, eo16⟩ := Kd.R_slice HO108.out
 (first | subst eo16 | (injection eo16 with f1_ f2_ f3_; have f4_ := f1_.symm; have f5_ := f3_.symm; clear f1_ f2_ f3_; subst f4_; subst f5_))
 refine start_ (n := 20) (S := fun w' => w'.cell? ⟨gb101, 0, none⟩ = some (.int .i64 a0_0) ∧ w'.cell? ⟨gb101, 1, none⟩ = some (.int .u64 a0_1) ∧ w'.cell? ⟨gb101, 2, none⟩ = some (.int .u64 a0_2) ∧ w'.cell? ⟨gb101, 3, none⟩ = some (.int .u64 a0_3) ∧ w'.cell? ⟨gb101, 4, none⟩ = some (.int .u64 a0_4) ∧ w'.cell? ⟨gb101, 5, none⟩ = some (.slice A0_5 l0_5.length c0_5) ∧ w'.cell? ⟨gb101, 6, none⟩ = some (.slice A0_6 l0_6.length c0_6) ∧ w'.cell? ⟨gb101, 7, none⟩ = some (.slice A0_7 l0_7.length c0_7) ∧ w'.cell? ⟨gb101, 8, none⟩ = some (.slice A0_8 l0_8.length c0_8)) (ds := []) #[false, false, false, false, false, false, false, false, false, false, false, false, false, false, false, false, false, false, false, false] (by kernel_rfl) rfl rfl ⟨(blk_cell BK101.out 0).trans rfl, (blk_cell BK101.out 1).trans rfl, (blk_cell BK101.out 2).trans rfl, (blk_cell BK101.out 3).trans rfl, (blk_cell BK101.out 4).trans rfl, (blk_cell BK101.out 5).trans rfl, (blk_cell BK101.out 6).trans rfl, (blk_cell BK101.out 7).trans rfl, (blk_cell BK101.out 8).trans rfl⟩ (fun hHeld => ?_); refine with_tabW tidepoleref25_Many.tab3 tidepoleref25_Many.bits3 (fun HT_ HW_ => ?_)
 generalize w13.drew = w14 at HO106 HO108 HO113 HO115 BK101 HB hHeld ⊢
 refine pure_ (i := 0) (N := some 29) (v := ?_) (a' := ?_) #[true, false, false, false, false, false, false, false, false, false, false, false, false, false, false, false, false, false, false, false] rfl rfl (any_of HT_.out (by kernel_rfl)) (fun _ _ _ h => h) (Or.inl ⟨by rfl, ?_⟩) ?_ ?_
 rotate_left
 ·intro w'
  go_simp
  with_reducible rfl
 rotate_left
 ·simp only [Act.put, List.setIfInBounds_toArray, List.set_cons_zero, List.set_cons_succ, i64_w, i32_w]
  rfl
 refine pure_ (i := 1) (N := some 30) (v := ?_) (a' := ?_) #[true, true, false, false, false, false, false, false, false, false, false, false, false, false, false, false, false, false, false, false] rfl rfl (any_of HT_.out (by kernel_rfl)) (fun _ _ _ h => h) (Or.inl ⟨by rfl, ?_⟩) ?_ ?_
 rotate_left
 ·intro w'
  go_simp
  with_reducible rfl
 rotate_left
 ·simp only [Act.put, List.setIfInBounds_toArray, List.set_cons_zero, List.set_cons_succ, i64_w, i32_w]
  rfl
 refine pure_ (i := 3) (N := some 32) (v := ?_) (a' := ?_) #[true, true, false, true, false, false, false, false, false, false, false, false, false, false, false, false, false, false, false, false] rfl rfl (any_of HT_.out (by kernel_rfl)) (fun _ _ _ h => h) (Or.inl ⟨by rfl, ?_⟩) ?_ ?_
 rotate_left
 ·intro w'
  go_simp
  with_reducible rfl
 rotate_left
 ·simp only [Act.put, List.setIfInBounds_toArray, List.set_cons_zero, List.set_cons_succ, i64_w, i32_w]
  rfl
 refine pure_ (i := 5) (N := some 34) (v := ?_) (a' := ?_) #[true, true, false, true, false, true, false, false, false, false, false, false, false, false, false, false, false, false, false, false] rfl rfl (any_of HT_.out (by kernel_rfl)) (fun _ _ _ h => h) (Or.inl ⟨by rfl, ?_⟩) ?_ ?_
 rotate_left
 ·intro w'
  go_simp
  with_reducible rfl
 rotate_left
 ·simp only [Act.put, List.setIfInBounds_toArray, List.set_cons_zero, List.set_cons_succ, i64_w, i32_w]
  rfl
 refine pure_ (i := 9) (N := some 38) (v := ?_) (a' := ?_) #[true, true, false, true, false, true, false, false, false, true, false, false, false, false, false, false, false, false, false, false] rfl rfl (any_of HT_.out (by kernel_rfl)) (fun _ _ _ h => h) (Or.inl ⟨by rfl, ?_⟩) ?_ ?_
 rotate_left
 ·intro w'
  go_simp
  with_reducible rfl
 rotate_left
 ·simp only [Act.put, List.setIfInBounds_toArray, List.set_cons_zero, List.set_cons_succ, i64_w, i32_w]
  rfl
 refine pure_ (i := 10) (N := some 39) (v := ?_) (a' := ?_) #[true, true, false, true, false, true, false, false, false, true, true, false, false, false, false, false, false, false, false, false] rfl rfl (any_of HT_.out (by kernel_rfl)) (fun _ _ _ h => h) (Or.inl ⟨by rfl, ?_⟩) ?_ ?_
 rotate_left
 ·intro w'
  go_simp
  with_reducible rfl
 rotate_left
 ·simp only [Act.put, List.setIfInBounds_toArray, List.set_cons_zero, List.set_cons_succ, i64_w, i32_w]
  rfl
 refine pure_ (i := 12) (N := some 41) (v := ?_) (a' := ?_) #[true, true, false, true, false, true, false, false, false, true, true, false, true, false, false, false, false, false, false, false] rfl rfl (any_of HT_.out (by kernel_rfl)) (fun _ _ _ h => h) (Or.inl ⟨by rfl, ?_⟩) ?_ ?_
 rotate_left
 ·intro w'
  go_simp
  with_reducible rfl
 rotate_left
 ·simp only [Act.put, List.setIfInBounds_toArray, List.set_cons_zero, List.set_cons_succ, i64_w, i32_w]
  rfl
 refine pure_ (i := 14) (N := some 43) (v := ?_) (a' := ?_) #[true, true, false, true, false, true, false, false, false, true, true, false, true, false, true, false, false, false, false, false] rfl rfl (any_of HT_.out (by kernel_rfl)) (fun _ _ _ h => h) (Or.inl ⟨by rfl, ?_⟩) ?_ ?_
 rotate_left
 ·intro w'
  go_simp
  with_reducible rfl
 rotate_left
 ·simp only [Act.put, List.setIfInBounds_toArray, List.set_cons_zero, List.set_cons_succ, i64_w, i32_w]
  rfl
 refine take_ (i := 4) (N := some 33) (v := ?_) (a' := ?_) #[true, true, false, true, true, true, false, false, false, true, true, false, true, false, true, false, false, false, false, false] rfl rfl (take_ofW HT_.out HW_.out (by kernel_rfl)) (fun _ _ _ h => h) (Or.inl ⟨by rfl, ?_⟩) hHeld ?_ ?_
 rotate_left
 ·rintro w' ⟨s0, s1, s2, s3, s4, s5, s6, s7, s8⟩
  go_simp
  with_reducible rfl
 rotate_left
 ·simp only [Act.put, List.setIfInBounds_toArray, List.set_cons_zero, List.set_cons_succ, i64_w, i32_w]
  rfl
 refine pure_ (i := 6) (N := some 35) (v := ?_) (a' := ?_) #[true, true, false, true, true, true, true, false, false, true, true, false, true, false, true, false, false, false, false, false] rfl rfl (any_of HT_.out (by kernel_rfl)) (fun _ _ _ h => h) (Or.inl ⟨by rfl, ?_⟩) ?_ ?_
 rotate_left
 ·intro w'
  go_simp
  with_reducible rfl
 rotate_left
 ·simp only [Act.put, List.setIfInBounds_toArray, List.set_cons_zero, List.set_cons_succ, i64_w, i32_w]
  rfl
 refine take_ (i := 13) (N := some 42) (v := ?_) (a' := ?_) #[true, true, false, true, true, true, true, false, false, true, true, false, true, true, true, false, false, false, false, false] rfl rfl (take_ofW HT_.out HW_.out (by kernel_rfl)) (fun _ _ _ h => h) (Or.inl ⟨by rfl, ?_⟩) hHeld ?_ ?_
 rotate_left
 ·rintro w' ⟨s0, s1, s2, s3, s4, s5, s6, s7, s8⟩
  go_simp
  with_reducible rfl
 rotate_left
 ·simp only [Act.put, List.setIfInBounds_toArray, List.set_cons_zero, List.set_cons_succ, i64_w, i32_w]
  rfl
 refine pure_ (i := 15) (N := some 44) (v := ?_) (a' := ?_) #[true, true, false, true, true, true, true, false, false, true, true, false, true, true, true, true, false, false, false, false] rfl rfl (any_of HT_.out (by kernel_rfl)) (fun _ _ _ h => h) (Or.inl ⟨by rfl, ?_⟩) ?_ ?_
 rotate_left
 ·intro w'
  go_simp
  with_reducible rfl
 rotate_left
 ·simp only [Act.put, List.setIfInBounds_toArray, List.set_cons_zero, List.set_cons_succ, i64_w, i32_w]
  rfl
 refine one_ (i := 2) (N := some 31) #[true, true, true, true, true, true, true, false, false, true, true, false, true, true, true, true, false, false, false, false] rfl rfl (one_of HT_.out (by kernel_rfl)) (by decide) (fun K hK => ?_)
 refine goes_ Try.func104 (by kernel_rfl) rfl #[.slice Ao15 t102.length co15, .slice Ao16 t103.length co16] (by rfl) rfl rfl (by (try simp only [List.map_toArray, List.map_cons, List.map_nil]); first | done | rfl | (simp only [List.length_drop, List.length_take]; rfl)) ?_
 with_reducible refine (tidepoleref25_some.calls k _ _ t102 _ _ t103 t116 _ ?side1 ?side2 ?side3 ?side4 A5.out).mono ?_
 (case side1 => exact Kd.C_u (Kd.R_reads' HO106.out).2.2)
 (case side2 => exact (Kd.R_reads' HO106.out).2.1)
 (case side3 => exact Kd.C_u (Kd.R_reads' HO108.out).2.2)
 (case side4 => exact (Kd.R_reads' HO108.out).2.1)
 rintro e w17 ⟨v117, rfl, ho0, hb⟩
 refine ⟨_, rfl, ?_⟩
 have n0_ := Aside0.mk (Kd.R_elder' (Kd.R_u HO106.out) (Kd.R_base ho0) hb)
 have n1_ := Aside0.mk (Kd.R_ub HO108.out hb)
 have n2_ := Aside0.mk (Kd.R_elder' (Kd.R_u HO113.out) (Kd.R_base ho0) hb)
 have n3_ := Aside0.mk (Kd.R_ub HO115.out hb)
 have n4_ := Aside0.mk (Kd.R_lower (Kd.R_new' (Kd.R_new' ho0 (Kd.R_lt (Kd.R_u HO106.out))) (Kd.R_lt (Kd.R_u HO113.out))) (below_size (by repeat (first | (with_reducible first | exact HB.out | refine below_q ?_ | refine below_set ?_ GE101.out) | exact HB.out))))
 have n5_ := Aside0.mk (blk_ub BK101.out hb)
 have n6_ := Aside0.mk (below_step (by repeat (first | (with_reducible first | exact HB.out | refine below_q ?_ | refine below_set ?_ GE101.out) | exact HB.out)) hb)
 clear HO106
 clear HO108
 clear HO113
 clear HO115
 clear BK101
 clear HB
 have HO106 := n0_
 have HO108 := n1_
 have HO113 := n2_
 have HO115 := n3_
 have HO118 := n4_
 have BK101 := n5_
 have HB := n6_
 clear n0_ n1_ n2_ n3_ n4_ n5_ n6_
 (try clear hb)
 (try clear hb2)
 (try clear hk)
 (try clear hi)
 (try clear ho0)
 obtain ⟨Ao18, co18, eo18⟩ := Kd.R_slice HO118.out
 (first | subst eo18 | (injection eo18 with f1_ f2_ f3_; have f4_ := f1_.symm; have f5_ := f3_.symm; clear f1_ f2_ f3_; subst f4_; subst f5_))
 refine hK.out _ _ ⟨(blk_cell BK101.out 0).trans rfl, (blk_cell BK101.out 1).trans rfl, (blk_cell BK101.out 2).trans rfl, (blk_cell BK101.out 3).trans rfl, (blk_cell BK101.out 4).trans rfl, (blk_cell BK101.out 5).trans rfl, (blk_cell BK101.out 6).trans rfl, (blk_cell BK101.out 7).trans rfl, (blk_cell BK101.out 8).trans rfl⟩ (fun hHeld => ?_)
 clear hK K
 refine norm_ (a' := ?_) ?_ ?_
 rotate_left
 ·show Act.put _ (some 31) _ = _
  simp only [Act.put, List.setIfInBounds_toArray, List.set_cons_zero, List.set_cons_succ, i64_w, i32_w]
  rfl
 refine one_ (i := 7) (N := some 36) #[true, true, true, true, true, true, true, true, false, true, true, false, true, true, true, true, false, false, false, false] rfl rfl (one_of HT_.out (by kernel_rfl)) (by decide) (fun K hK => ?_)
 refine goes_ Try.func103 (by kernel_rfl) rfl #[.slice Ao18 t116.length co18, .int .i64 (wrap64 (a0_0 - a1))] (by rfl) rfl rfl (by (try simp only [List.map_toArray, List.map_cons, List.map_nil]); first | done | rfl | (simp only [List.length_drop, List.length_take]; rfl)) ?_
 with_reducible refine (tidepoleref25_wide.calls k _ _ t116 (wrap64 (a0_0 - a1)) t119 _ ?side1 ?side2 A6.out).mono ?_
 (case side1 => exact Kd.C_u (Kd.R_reads' HO118.out).2.2)
 (case side2 => exact (Kd.R_reads' HO118.out).2.1)
 rintro e w19 ⟨v120, rfl, ho0, hb⟩
 refine ⟨_, rfl, ?_⟩
 have n0_ := Aside0.mk (Kd.R_elder' (Kd.R_u HO106.out) (Kd.R_base ho0) hb)
 have n1_ := Aside0.mk (Kd.R_ub HO108.out hb)
 have n2_ := Aside0.mk (Kd.R_elder' (Kd.R_u HO113.out) (Kd.R_base ho0) hb)
 have n3_ := Aside0.mk (Kd.R_ub HO115.out hb)
 have n4_ := Aside0.mk (Kd.R_elder' (Kd.R_u HO118.out) (Kd.R_base ho0) hb)
 have n5_ := Aside0.mk (Kd.R_lower (Kd.R_new' (Kd.R_new' (Kd.R_new' ho0 (Kd.R_lt (Kd.R_u HO106.out))) (Kd.R_lt (Kd.R_u HO113.out))) (Kd.R_lt (Kd.R_u HO118.out))) (below_size (by repeat (first | (with_reducible first | exact HB.out | refine below_q ?_ | refine below_set ?_ GE101.out) | exact HB.out))))
 have n6_ := Aside0.mk (blk_ub BK101.out hb)
 have n7_ := Aside0.mk (below_step (by repeat (first | (with_reducible first | exact HB.out | refine below_q ?_ | refine below_set ?_ GE101.out) | exact HB.out)) hb)
 clear HO106
 clear HO108
 clear HO113
 clear HO115
 clear HO118
 clear BK101
 clear HB
 have HO106 := n0_
 have HO108 := n1_
 have HO113 := n2_
 have HO115 := n3_
 have HO118 := n4_
 have HO121 := n5_
 have BK101 := n6_
 have HB := n7_
 clear n0_ n1_ n2_ n3_ n4_ n5_ n6_ n7_
 (try clear hb)
 (try clear hb2)
 (try clear hk)
 (try clear hi)
 (try clear ho0)
 obtain ⟨Ao20, co20, eo20⟩ := Kd.R_slice HO121.out
 (first | subst eo20 | (injection eo20 with f1_ f2_ f3_; have f4_ := f1_.symm; have f5_ := f3_.symm; clear f1_ f2_ f3_; subst f4_; subst f5_))
 obtain ⟨Ao21, co21, eo21⟩ := Kd.R_slice HO113.out
 (first | subst eo21 | (injection eo21 with f1_ f2_ f3_; have f4_ := f1_.symm; have f5_ := f3_.symm; clear f1_ f2_ f3_; subst f4_; subst f5_))
 obtain ⟨Ao22, co22, eo22⟩ := Kd.R_slice HO115.out
 (first | subst eo22 | (injection eo22 with f1_ f2_ f3_; have f4_ := f1_.symm; have f5_ := f3_.symm; clear f1_ f2_ f3_; subst f4_; subst f5_))
 refine hK.out _ _ ⟨(blk_cell BK101.out 0).trans rfl, (blk_cell BK101.out 1).trans rfl, (blk_cell BK101.out 2).trans rfl, (blk_cell BK101.out 3).trans rfl, (blk_cell BK101.out 4).trans rfl, (blk_cell BK101.out 5).trans rfl, (blk_cell BK101.out 6).trans rfl, (blk_cell BK101.out 7).trans rfl, (blk_cell BK101.out 8).trans rfl⟩ (fun hHeld => ?_)
 clear hK K
 refine norm_ (a' := ?_) ?_ ?_
 rotate_left
 ·show Act.put _ (some 36) _ = _
  simp only [Act.put, List.setIfInBounds_toArray, List.set_cons_zero, List.set_cons_succ, i64_w, i32_w]
  rfl
 refine pure_ (i := 8) (N := some 37) (v := ?_) (a' := ?_) #[true, true, true, true, true, true, true, true, true, true, true, false, true, true, true, true, false, false, false, false] rfl rfl (any_of HT_.out (by kernel_rfl)) (fun _ _ _ h => h) (Or.inl ⟨by rfl, ?_⟩) ?_ ?_
 rotate_left
 ·intro w'
  go_simp
  with_reducible rfl
 rotate_left
 ·simp only [Act.put, List.setIfInBounds_toArray, List.set_cons_zero, List.set_cons_succ, i64_w, i32_w]
  rfl
 refine one_ (i := 11) (N := some 40) #[true, true, true, true, true, true, true, true, true, true, true, true, true, true, true, true, false, false, false, false] rfl rfl (one_of HT_.out (by kernel_rfl)) (by decide) (fun K hK => ?_)
 refine goes_ Try.func104 (by kernel_rfl) rfl #[.slice Ao21 t109.length co21, .slice Ao22 t110.length co22] (by rfl) rfl rfl (by (try simp only [List.map_toArray, List.map_cons, List.map_nil]); first | done | rfl | (simp only [List.length_drop, List.length_take]; rfl)) ?_
 with_reducible refine (tidepoleref25_some.calls k _ _ t109 _ _ t110 t122 _ ?side1 ?side2 ?side3 ?side4 A7.out).mono ?_
 (case side1 => exact Kd.C_u (Kd.R_reads' HO113.out).2.2)
 (case side2 => exact (Kd.R_reads' HO113.out).2.1)
 (case side3 => exact Kd.C_u (Kd.R_reads' HO115.out).2.2)
 (case side4 => exact (Kd.R_reads' HO115.out).2.1)
 rintro e w23 ⟨v123, rfl, ho0, hb⟩
 refine ⟨_, rfl, ?_⟩
 have n0_ := Aside0.mk (Kd.R_elder' (Kd.R_u HO106.out) (Kd.R_base ho0) hb)
 have n1_ := Aside0.mk (Kd.R_ub HO108.out hb)
 have n2_ := Aside0.mk (Kd.R_elder' (Kd.R_u HO113.out) (Kd.R_base ho0) hb)
 have n3_ := Aside0.mk (Kd.R_ub HO115.out hb)
 have n4_ := Aside0.mk (Kd.R_elder' (Kd.R_u HO118.out) (Kd.R_base ho0) hb)
 have n5_ := Aside0.mk (Kd.R_elder' (Kd.R_u HO121.out) (Kd.R_base ho0) hb)
 have n6_ := Aside0.mk (Kd.R_lower (Kd.R_new' (Kd.R_new' (Kd.R_new' (Kd.R_new' ho0 (Kd.R_lt (Kd.R_u HO106.out))) (Kd.R_lt (Kd.R_u HO113.out))) (Kd.R_lt (Kd.R_u HO118.out))) (Kd.R_lt (Kd.R_u HO121.out))) (below_size (by repeat (first | (with_reducible first | exact HB.out | refine below_q ?_ | refine below_set ?_ GE101.out) | exact HB.out))))
 have n7_ := Aside0.mk (blk_ub BK101.out hb)
 have n8_ := Aside0.mk (below_step (by repeat (first | (with_reducible first | exact HB.out | refine below_q ?_ | refine below_set ?_ GE101.out) | exact HB.out)) hb)
 clear HO106
 clear HO108
 clear HO113
 clear HO115
 clear HO118
 clear HO121
 clear BK101
 clear HB
 have HO106 := n0_
 have HO108 := n1_
 have HO113 := n2_
 have HO115 := n3_
 have HO118 := n4_
 have HO121 := n5_
 have HO124 := n6_
 have BK101 := n7_
 have HB := n8_
 clear n0_ n1_ n2_ n3_ n4_ n5_ n6_ n7_ n8_
 (try clear hb)
 (try clear hb2)
 (try clear hk)
 (try clear hi)
 (try clear ho0)
 obtain ⟨Ao24, co24, eo24⟩ := Kd.R_slice HO124.out
 (first | subst eo24 | (injection eo24 with f1_ f2_ f3_; have f4_ := f1_.symm; have f5_ := f3_.symm; clear f1_ f2_ f3_; subst f4_; subst f5_))
 refine hK.out _ _ ⟨(blk_cell BK101.out 0).trans rfl, (blk_cell BK101.out 1).trans rfl, (blk_cell BK101.out 2).trans rfl, (blk_cell BK101.out 3).trans rfl, (blk_cell BK101.out 4).trans rfl, (blk_cell BK101.out 5).trans rfl, (blk_cell BK101.out 6).trans rfl, (blk_cell BK101.out 7).trans rfl, (blk_cell BK101.out 8).trans rfl⟩ (fun hHeld => ?_)
 clear hK K
 refine norm_ (a' := ?_) ?_ ?_
 rotate_left
 ·show Act.put _ (some 40) _ = _
  simp only [Act.put, List.setIfInBounds_toArray, List.set_cons_zero, List.set_cons_succ, i64_w, i32_w]
  rfl
 refine one_ (i := 16) (N := some 45) #[true, true, true, true, true, true, true, true, true, true, true, true, true, true, true, true, true, false, false, false] rfl rfl (one_of HT_.out (by kernel_rfl)) (by decide) (fun K hK => ?_)
 refine goes_ Try.func103 (by kernel_rfl) rfl #[.slice Ao24 t122.length co24, .int .i64 (wrap64 (a0_0 - a1))] (by rfl) rfl rfl (by (try simp only [List.map_toArray, List.map_cons, List.map_nil]); first | done | rfl | (simp only [List.length_drop, List.length_take]; rfl)) ?_
 with_reducible refine (tidepoleref25_wide.calls k _ _ t122 (wrap64 (a0_0 - a1)) t125 _ ?side1 ?side2 A8.out).mono ?_
 (case side1 => exact Kd.C_u (Kd.R_reads' HO124.out).2.2)
 (case side2 => exact (Kd.R_reads' HO124.out).2.1)
 rintro e w25 ⟨v126, rfl, ho0, hb⟩
 refine ⟨_, rfl, ?_⟩
 have n0_ := Aside0.mk (Kd.R_elder' (Kd.R_u HO106.out) (Kd.R_base ho0) hb)
 have n1_ := Aside0.mk (Kd.R_ub HO108.out hb)
 have n2_ := Aside0.mk (Kd.R_elder' (Kd.R_u HO113.out) (Kd.R_base ho0) hb)
 have n3_ := Aside0.mk (Kd.R_ub HO115.out hb)
 have n4_ := Aside0.mk (Kd.R_elder' (Kd.R_u HO118.out) (Kd.R_base ho0) hb)
 have n5_ := Aside0.mk (Kd.R_elder' (Kd.R_u HO121.out) (Kd.R_base ho0) hb)
 have n6_ := Aside0.mk (Kd.R_elder' (Kd.R_u HO124.out) (Kd.R_base ho0) hb)
 have n7_ := Aside0.mk (Kd.R_lower (Kd.R_new' (Kd.R_new' (Kd.R_new' (Kd.R_new' (Kd.R_new' ho0 (Kd.R_lt (Kd.R_u HO106.out))) (Kd.R_lt (Kd.R_u HO113.out))) (Kd.R_lt (Kd.R_u HO118.out))) (Kd.R_lt (Kd.R_u HO121.out))) (Kd.R_lt (Kd.R_u HO124.out))) (below_size (by repeat (first | (with_reducible first | exact HB.out | refine below_q ?_ | refine below_set ?_ GE101.out) | exact HB.out))))
 have n8_ := Aside0.mk (blk_ub BK101.out hb)
 have n9_ := Aside0.mk (below_step (by repeat (first | (with_reducible first | exact HB.out | refine below_q ?_ | refine below_set ?_ GE101.out) | exact HB.out)) hb)
 clear HO106
 clear HO108
 clear HO113
 clear HO115
 clear HO118
 clear HO121
 clear HO124
 clear BK101
 clear HB
 have HO106 := n0_
 have HO108 := n1_
 have HO113 := n2_
 have HO115 := n3_
 have HO118 := n4_
 have HO121 := n5_
 have HO124 := n6_
 have HO127 := n7_
 have BK101 := n8_
 have HB := n9_
 clear n0_ n1_ n2_ n3_ n4_ n5_ n6_ n7_ n8_ n9_
 (try clear hb)
 (try clear hb2)
 (try clear hk)
 (try clear hi)
 (try clear ho0)
 obtain ⟨Ao26, co26, eo26⟩ := Kd.R_slice HO127.out
 (first | subst eo26 | (injection eo26 with f1_ f2_ f3_; have f4_ := f1_.symm; have f5_ := f3_.symm; clear f1_ f2_ f3_; subst f4_; subst f5_))
 refine hK.out _ _ ⟨(blk_cell BK101.out 0).trans rfl, (blk_cell BK101.out 1).trans rfl, (blk_cell BK101.out 2).trans rfl, (blk_cell BK101.out 3).trans rfl, (blk_cell BK101.out 4).trans rfl, (blk_cell BK101.out 5).trans rfl, (blk_cell BK101.out 6).trans rfl, (blk_cell BK101.out 7).trans rfl, (blk_cell BK101.out 8).trans rfl⟩ (fun hHeld => ?_)
 clear hK K
 refine norm_ (a' := ?_) ?_ ?_
 rotate_left
 ·show Act.put _ (some 45) _ = _
  simp only [Act.put, List.setIfInBounds_toArray, List.set_cons_zero, List.set_cons_succ, i64_w, i32_w]
  rfl
 refine pure_ (i := 17) (N := some 46) (v := ?_) (a' := ?_) #[true, true, true, true, true, true, true, true, true, true, true, true, true, true, true, true, true, true, false, false] rfl rfl (any_of HT_.out (by kernel_rfl)) (fun _ _ _ h => h) (Or.inl ⟨by rfl, ?_⟩) ?_ ?_
 rotate_left
 ·intro w'
  go_simp
  with_reducible rfl
 rotate_left
 ·simp only [Act.put, List.setIfInBounds_toArray, List.set_cons_zero, List.set_cons_succ, i64_w, i32_w]
  rfl
 refine pure_ (i := 18) (N := some 47) (v := ?_) (a' := ?_) #[true, true, true, true, true, true, true, true, true, true, true, true, true, true, true, true, true, true, true, false] rfl rfl (any_of HT_.out (by kernel_rfl)) (fun _ _ _ h => h) (Or.inl ⟨by rfl, ?_⟩) ?_ ?_
 rotate_left
 ·intro w'
  go_simp
  with_reducible rfl
 rotate_left
 ·simp only [Act.put, List.setIfInBounds_toArray, List.set_cons_zero, List.set_cons_succ, i64_w, i32_w]
  rfl
 refine pure_ (i := 19) (N := some 4) (v := ?_) (a' := ?_) #[true, true, true, true, true, true, true, true, true, true, true, true, true, true, true, true, true, true, true, true] rfl rfl (any_of HT_.out (by kernel_rfl)) (fun _ _ _ h => h) (Or.inl ⟨by rfl, ?_⟩) ?_ ?_
 rotate_left
 ·intro w'
  go_simp
  with_reducible rfl
 rotate_left
 ·simp only [Act.put, List.setIfInBounds_toArray, List.set_cons_zero, List.set_cons_succ, i64_w, i32_w]
  rfl
 refine done_ (done_of HT_.out (by kernel_rfl)) ?_
 try go_wp2
 go_ret
 exact ⟨by first | rfl | (simp [errW_none, errW_some] <;> rfl) | (simp [*, errW_none, errW_some] <;> rfl), by repeat (first | (with_reducible first | exact HB.out | apply below_alloc | apply pw_below_drewN | apply below_drew1 | refine below_set ?_ GE101.out) | exact HB.out)⟩
end Go.Proofs.Ytooiccpmngmapaa.P
namespace Go.Proofs.Ytooiccpmngmapaa.P
open Go.RowKit Go.Shelf Go.Proofs.YtooiccpmngmapaaW.PrintWords Go.Proofs.YtooiccpmngmapaaW.PrintLast Go.Proofs.YtooiccpmngmapaaW.PrintMore
theorem wideGo_head (s : Int) : ∀ (l : List Int) (cur : Int), ∃ t, wideGo s cur l = cur :: t
  | [], cur => ⟨[], rfl⟩
  | p :: t, cur => by
    simp only [wideGo]
    split
    · exact wideGo_head s t cur
    · exact ⟨_, rfl⟩
theorem wide_go_twice {a b : Nat} (hab : a + b ≤ 62) : ∀ (l : List Int) (c : Int), wideR b (wideGo a c l) = wideGo ((a : Int) + b) (placeR c b) l
  | [], c => rfl
  | p :: t, c => by
    have hpp := place_place (i := p) hab
    simp only [wideGo]
    by_cases h : placeR p a = c
    · rw [if_pos h, wide_go_twice hab t c, if_pos (by rw [← hpp, h])]
    · rw [if_neg h]
      have ih := wide_go_twice hab t (placeR p a)
      obtain ⟨r, hr⟩ := wideGo_head a t (placeR p a)
      rw [hr] at ih ⊢
      rw [hpp] at ih
      show wideGo b (placeR c b) (placeR p a :: r) = _
      simp only [wideGo]
      rw [hpp]
      have ih' : wideGo b (placeR (placeR p a) b) r = wideGo ((a : Int) + b) (placeR p ((a : Int) + b)) t := ih
      rw [hpp] at ih'
      by_cases h2 : placeR p ((a : Int) + b) = placeR c b
      · rw [if_pos h2, if_pos h2, ← h2]; exact ih'
      · rw [if_neg h2, if_neg h2, ih']
theorem wide_twice {a b : Nat} (hab : a + b ≤ 62) (l : List Int) : wideR b (wideR a l) = wideR ((a : Int) + b) l := by
  cases l with
  | nil => rfl
  | cons p t =>
    have := wide_go_twice hab t (placeR p a)
    rw [place_place hab] at this
    exact this
theorem wide_fewer {a b : Int} (ha : 0 ≤ a) (hab : a ≤ b) (hb : b ≤ 62) (l : List Int) : (wideR b l).length ≤ (wideR a l).length := by
  obtain ⟨n, rfl⟩ : ∃ n : Nat, a = n := ⟨a.toNat, by omega⟩
  obtain ⟨m, hm⟩ : ∃ m : Nat, b = (n : Int) + m := ⟨(b - n).toNat, by omega⟩
  subst hm
  rw [← wide_twice (by omega) l]
  exact wideR_len _ _
def manyN (s : Int) (l : List Pr) : Int := ((wideR s (l.map (·.f0))).length : Int)
theorem many_loop (s : Int) (l : List Pr) (hr : RowOK l) : ∀ (d k i : Nat) (n last : Int), l.length - i = d → d + 1 < k → 1 ≤ i → i ≤ l.length → 1 ≤ n → n ≤ i →
    scale_many.l0 k s n last l (l.length : Int) (i : Int) = some (n - 1 + ((wideGo s last ((l.map (·.f0)).drop i)).length : Int)) := by
  have hl := hr.len
  intro d
  induction d with
  | zero =>
    intro k i n last hd hk h1 hi hn hn2
    obtain ⟨k, rfl⟩ : ∃ m, k = m + 1 + 1 := ⟨k - 2, by omega⟩
    rw [scale_many.l0, if_neg (by omega), List.drop_eq_nil_of_le (by rw [List.length_map]; omega)]
    congr 1
    simp [wideGo]
  | succ d ih =>
    intro k i n last hd hk h1 hi hn hn2
    obtain ⟨k, rfl⟩ : ∃ m, k = m + 1 + 1 := ⟨k - 2, by omega⟩
    have hlt : i < l.length := by omega
    have hlt' : i < (l.map (·.f0)).length := by rw [List.length_map]; exact hlt
    rw [scale_many.l0, if_pos (by omega), if_pos (by omega), if_pos (by omega), rdPr_at hlt, scale_Place_f _ _ _ (hr.cnt _ (List.getElem_mem hlt)).1, Option.bind_some, if_neg (by omega), wrap_succ (by omega), wrap_id (x := n + 1) (by omega) (by omega)]
    rw [List.drop_eq_getElem_cons hlt', List.getElem_map, wideGo]
    by_cases c : placeR l[i].f0 s = last
    · rw [if_pos c, if_pos c, ih (k + 1) (i + 1) n last (by omega) (by omega) (by omega) (by omega) hn (by omega)]
    · rw [if_neg c, if_neg c, ih (k + 1) (i + 1) (n + 1) _ (by omega) (by omega) (by omega) (by omega) (by omega) (by omega)]
      congr 1
      simp only [List.length_cons]
      omega
theorem many_f (s : Int) (l : List Pr) (hr : RowOK l) (k : Nat) (hk : l.length + 2 < k) : scale_many.f k l s = some (manyN s l) := by
  unfold scale_many.f manyN
  obtain ⟨k, rfl⟩ : ∃ m, k = m + 1 + 1 := ⟨k - 2, by omega⟩
  have hl := hr.len
  cases l with
  | nil => rw [scale_many.l0, if_neg (by simp)]; rfl
  | cons p t =>
    have h0 : rd_T173 (p :: t) 0 = p := rfl
    rw [scale_many.l0, if_pos (by simp <;> omega), if_pos (by omega), if_pos (by simp <;> omega), h0, scale_Place_f _ _ _ (hr.cnt p (by simp)).1, Option.bind_some, if_pos rfl, show wrap64 (0 + 1) = ((1 : Nat) : Int) from by unfold wrap64; omega]
    have := many_loop s (p :: t) hr t.length (k + 1) 1 ((1 : Nat) : Int) (placeR p.f0 s) (by simp) (by simp at hk; omega) (by omega) (by simp) (by omega) (by omega)
    rw [this]
    congr 1
    simp [wideR]
def fitL (S : Int) (P N : List Pr) (most : Int) : Nat → Int × Int
  | 0 => (0, 12)
  | d + 1 => if manyN (S - ((d : Int) - 4)) P + manyN (S - ((d : Int) - 4)) N ≤ most then ((d : Int) - 4, 0) else fitL S P N most d
def fitR (h : Hi) (most : Int) : Int × Int := if checkR h ≠ 0 then (0, checkR h) else if most < 0 then (0, 11) else fitL h.f0 (some0 (openR h).1) (some0 (openR h).2.1) most (h.f0 + 5).toNat
theorem fitL_none (S : Int) (P N : List Pr) (most : Int) : ∀ (d : Nat), (d : Int) ≤ S + 5 → S ≤ 8 → manyN (S + 4) P + manyN (S + 4) N > most → fitL S P N most d = (0, 12)
  | 0, _, _, _ => rfl
  | d + 1, hd, hS, hm => by
    have h1 := wide_fewer (a := S - ((d : Int) - 4)) (b := S + 4) (by omega) (by omega) (by omega) (P.map (·.f0))
    have h2 := wide_fewer (a := S - ((d : Int) - 4)) (b := S + 4) (by omega) (by omega) (by omega) (N.map (·.f0))
    simp only [fitL]
    rw [if_neg (by unfold manyN at hm ⊢; omega)]
    exact fitL_none S P N most d (by omega) hS hm
theorem fitL_some (S : Int) (P N : List Pr) (most : Int) : ∀ (d : Nat), (d : Int) ≤ S + 5 → 1 ≤ d → manyN (S + 4) P + manyN (S + 4) N ≤ most →
    ∃ t : Int, fitL S P N most d = (t, 0) ∧ -4 ≤ t ∧ t ≤ (d : Int) - 5 ∧ manyN (S - t) P + manyN (S - t) N ≤ most ∧ (t = (d : Int) - 5 ∨ manyN (S - (t + 1)) P + manyN (S - (t + 1)) N > most)
  | 0, _, h1, _ => by omega
  | d + 1, hd, h1, hm => by
    simp only [fitL]
    by_cases c : manyN (S - ((d : Int) - 4)) P + manyN (S - ((d : Int) - 4)) N ≤ most
    · rw [if_pos c]
      exact ⟨(d : Int) - 4, rfl, by omega, by omega, c, .inl (by omega)⟩
    · rw [if_neg c]
      have hd1 : 1 ≤ d := by
        rcases Nat.lt_or_ge 0 d with h | h
        · exact h
        · exfalso
          obtain rfl : d = 0 := by omega
          apply c
          rw [show S - (((0 : Nat) : Int) - 4) = S + 4 by omega]
          exact hm
      obtain ⟨t, e, t0, t1, t2, t3⟩ := fitL_some S P N most d (by omega) hd1 hm
      refine ⟨t, e, t0, by omega, t2, .inr ?_⟩
      rcases t3 with t3 | t3
      · rw [show t + 1 = (d : Int) - 4 by omega]; omega
      · exact t3
theorem fit_loop (h : Hi) (P N : List Pr) (hP : RowOK P) (hN : RowOK N) (hs : -4 ≤ h.f0 ∧ h.f0 ≤ 8) (most : Int) : ∀ (d k : Nat), (d : Int) ≤ h.f0 + 5 → d + 4200 < k →
    scale_Fit.l0 k most P N ((d : Int) - 5) h.f0 h.f1 h.f2 h.f3 h.f4 h.f5 h.f6 h.f7 h.f8 = some (fitL h.f0 P N most d) := by
  have lp := hP.len
  have ln := hN.len
  intro d
  induction d with
  | zero =>
    intro k hd hk
    obtain ⟨k, rfl⟩ : ∃ m, k = m + 1 := ⟨k - 1, by omega⟩
    rw [scale_Fit.l0, if_neg (by omega)]
    rfl
  | succ d ih =>
    intro k hd hk
    obtain ⟨k, rfl⟩ : ∃ m, k = m + 1 := ⟨k - 1, by omega⟩
    have m1 := wideR_len (h.f0 - ((d : Int) - 4)) (P.map (·.f0))
    have m2 := wideR_len (h.f0 - ((d : Int) - 4)) (N.map (·.f0))
    rw [List.length_map] at m1 m2
    rw [scale_Fit.l0, show (((d + 1 : Nat) : Int) - 5) = (d : Int) - 4 by omega, if_pos (by omega), wrap_id (x := h.f0 - ((d : Int) - 4)) (by omega) (by omega), many_f _ P hP _ (by omega), many_f _ N hN _ (by omega)]
    simp only [Option.bind_some, fitL]
    rw [wrap_id (x := manyN _ P + manyN _ N) (by unfold manyN; omega) (by unfold manyN; omega)]
    by_cases c : manyN (h.f0 - ((d : Int) - 4)) P + manyN (h.f0 - ((d : Int) - 4)) N ≤ most
    · rw [if_pos c, if_pos c]
    · rw [if_neg c, if_neg c, wrap_id (x := (d : Int) - 4 - 1) (by omega) (by omega), show (d : Int) - 4 - 1 = (d : Int) - 5 by omega]
      exact ih k (by omega) (by omega)
theorem fit_f (h : Hi) (hw : wfH h) (most : Int) (k : Nat) (hk : 5000 < k) : scale_Fit.f k h.f0 h.f1 h.f2 h.f3 h.f4 h.f5 h.f6 h.f7 h.f8 most = some (fitR h most) := by
  obtain ⟨k, rfl⟩ : ∃ m, k = m + 1 := ⟨k - 1, by omega⟩
  obtain ⟨r1, r2⟩ := openR_row hw
  unfold scale_Fit.f fitR
  rw [hist_Pairs_f h hw, hist_Pairs_f h hw]
  simp only [Option.bind_some]
  have e0 : pairsR h 0 = ((openR h).1, checkR h) := by unfold pairsR; rw [if_pos rfl]; rfl
  have e1 : pairsR h 1 = ((openR h).2.1, checkR h) := by unfold pairsR; rw [if_neg (by decide), if_pos rfl]; rfl
  rw [e0, e1]
  by_cases hc : checkR h = 0
  rotate_left
  · rw [if_neg hc, if_pos hc]
  rw [if_pos hc, if_neg (show ¬ checkR h ≠ 0 from fun q => q hc)]
  by_cases hm : most < 0
  · rw [if_pos hm, if_pos hm]
  rw [if_neg hm, if_neg hm]
  have hs := checkR_schema hc
  rw [show pairs_Without_int64.f (openR h).1 0 = some (some0 (openR h).1) from if_pos (by have := r1.len; omega), show pairs_Without_int64.f (openR h).2.1 0 = some (some0 (openR h).2.1) from if_pos (by have := r2.len; omega)]
  simp only [Option.bind_some]
  have := fit_loop h _ _ (some0_ok r1) (some0_ok r2) hs most (h.f0 + 5).toNat (k + 1) (by omega) (by omega)
  rw [show (((h.f0 + 5).toNat : Int) - 5) = h.f0 by omega] at this
  exact this
def manyR (h : Hi) (tt : Int) : Int := manyN (h.f0 - tt) (some0 (openR h).1) + manyN (h.f0 - tt) (some0 (openR h).2.1)
theorem fit_plain {h : Hi} {most : Int} (hc : checkR h = 0) (hm : 0 ≤ most) : (manyR h (-4) > most ∧ fitR h most = (0, 12)) ∨ (manyR h (-4) ≤ most ∧ ∃ t, fitR h most = (t, 0) ∧ -4 ≤ t ∧ t ≤ h.f0 ∧ manyR h t ≤ most ∧ (t = h.f0 ∨ manyR h (t + 1) > most)) := by
  have hs := checkR_schema hc
  unfold fitR manyR
  rw [if_neg (by simp [hc]), if_neg (by omega)]
  rw [show h.f0 - -4 = h.f0 + 4 by omega]
  by_cases c : manyN (h.f0 + 4) (some0 (openR h).1) + manyN (h.f0 + 4) (some0 (openR h).2.1) ≤ most
  · refine .inr ⟨c, ?_⟩
    obtain ⟨t, e, t0, t1, t2, t3⟩ := fitL_some h.f0 (some0 (openR h).1) (some0 (openR h).2.1) most (h.f0 + 5).toNat (by omega) (by omega) c
    exact ⟨t, e, t0, by omega, t2, by rcases t3 with t3 | t3; exact .inl (by omega); exact .inr t3⟩
  · exact .inl ⟨by omega, fitL_none h.f0 _ _ most _ (by omega) (by omega) (by omega)⟩
theorem refSome_loop (l : List Pr) (hr : RowOK l) : ∀ (d k i : Nat) (o : List Int), l.length - i = d → d < k → i ≤ l.length → o.length ≤ i →
    tidepoleref25_some.l0 k (l.map (·.f0)) (l.map (·.f1)) o (i : Int) = some (o ++ (some0 (l.drop i)).map (·.f0)) := by
  have hl := hr.len
  intro d
  induction d with
  | zero =>
    intro k i o hd hk hi ho
    obtain ⟨k, rfl⟩ : ∃ m, k = m + 1 := ⟨k - 1, by omega⟩
    rw [tidepoleref25_some.l0, if_neg (by rw [List.length_map]; omega), List.drop_eq_nil_of_le (by omega)]
    simp [some0]
  | succ d ih =>
    intro k i o hd hk hi ho
    obtain ⟨k, rfl⟩ : ∃ m, k = m + 1 := ⟨k - 1, by omega⟩
    have hlt : i < l.length := by omega
    have e0 : rd (l.map (·.f0)) (i : Int) = l[i].f0 := rd_map (·.f0) hlt
    have e1 : rd (l.map (·.f1)) (i : Int) = l[i].f1 := rd_map (·.f1) hlt
    have hp := (hr.cnt _ (List.getElem_mem hlt)).2.1
    rw [tidepoleref25_some.l0, if_pos (by rw [List.length_map]; omega), if_pos (by omega), if_pos (by rw [List.length_map]; omega), e1, wrap_succ (by omega), List.drop_eq_getElem_cons hlt]
    by_cases c : l[i].f1 = 0
    · have e2 : some0 (l[i] :: l.drop (i + 1)) = some0 (l.drop (i + 1)) := by unfold some0; rw [List.filter_cons]; simp [c]
      rw [if_neg (by omega), ih k (i + 1) o (by omega) (by omega) (by omega) (by omega), e2]
    · have e2 : some0 (l[i] :: l.drop (i + 1)) = l[i] :: some0 (l.drop (i + 1)) := by unfold some0; rw [List.filter_cons]; simp [c]
      rw [if_pos (by omega), if_pos (by omega), e0, ih k (i + 1) (o ++ [l[i].f0]) (by omega) (by omega) (by omega) (by simp <;> omega), e2]
      simp
theorem refMany_eq (h : Hi) (hw : wfH h) (hc : checkR h = 0) (h7 : h.f7.length ≤ 4096) (h8 : h.f8.length ≤ 4096) (tt : Int) (ht0 : -4 ≤ tt) (ht1 : tt ≤ h.f0 + 1) (k : Nat) (hk : 5130000 ≤ k) :
    tidepoleref25_Many.f k h.f0 h.f1 h.f2 h.f3 h.f4 (h.f5.map toR) (h.f6.map toR) h.f7 h.f8 tt = some (manyR h tt) := by
  have hs := checkR_schema hc
  obtain ⟨r1, r2⟩ := openR_row hw
  have ho := openR_right hc
  have s1 : (sideRes h.f5 h.f7).1 = (openR h).1 := by rw [ho]
  have s2 : (sideRes h.f6 h.f8).1 = (openR h).2.1 := by rw [ho]
  have o1 := some0_ok r1
  have o2 := some0_ok r2
  unfold tidepoleref25_Many.f
  rw [refSide_eq h.f5 h.f7 hw.2.2.2.2.2.1 hw.2.2.2.2.2.2.2.1 (by omega) _ (by omega), refSide_eq h.f6 h.f8 hw.2.2.2.2.2.2.1 hw.2.2.2.2.2.2.2.2.1 (by omega) _ (by omega)]
  simp only [Option.bind_some, sideRef, s1, s2]
  have k1 := refSome_loop (openR h).1 r1 (openR h).1.length k 0 [] (by omega) (by have := r1.len; omega) (by omega) (by simp)
  have k2 := refSome_loop (openR h).2.1 r2 (openR h).2.1.length k 0 [] (by omega) (by have := r2.len; omega) (by omega) (by simp)
  rw [show ((0 : Nat) : Int) = 0 from rfl, List.drop_zero, List.nil_append] at k1 k2
  rw [show tidepoleref25_some.f k ((openR h).1.map (·.f0)) ((openR h).1.map (·.f1)) = some ((some0 (openR h).1).map (·.f0)) from k1, show tidepoleref25_some.f k ((openR h).2.1.map (·.f0)) ((openR h).2.1.map (·.f1)) = some ((some0 (openR h).2.1).map (·.f0)) from k2]
  simp only [Option.bind_some]
  have n1 : ((some0 (openR h).1).map (·.f0)).length ≤ 4096 := by rw [List.length_map]; exact o1.len
  have n2 : ((some0 (openR h).2.1).map (·.f0)).length ≤ 4096 := by rw [List.length_map]; exact o2.len
  rw [wrap_id (x := h.f0 - tt) (by omega) (by omega), refWide_eq _ _ (fun x hx => by obtain ⟨q, hq, rfl⟩ := List.mem_map.1 hx; exact (o1.cnt q hq).1) n1 k (by omega), refWide_eq _ _ (fun x hx => by obtain ⟨q, hq, rfl⟩ := List.mem_map.1 hx; exact (o2.cnt q hq).1) n2 k (by omega)]
  simp only [Option.bind_some]
  have w1 := wideR_len (h.f0 - tt) ((some0 (openR h).1).map (·.f0))
  have w2 := wideR_len (h.f0 - tt) ((some0 (openR h).2.1).map (·.f0))
  rw [wrap_id (by omega) (by omega)]
  rfl
theorem fit25_c (h : Hi) (hw : wfH h) (most t e : Int) (he : fitR h most = (t, e)) (w : World) (v : Value) (hv : HI w v h) : Calls Try.prog 38 #[v, .int .i64 most] w fun r w' => r = .returned (.tuple #[.int .i64 t, .int .i64 e]) ∧ Below w.heap.size w w' := by
  obtain ⟨A5, c5, A6, c6, A7, c7, A8, c8, rfl, ⟨_, _, e5, h51, h52⟩, ⟨_, _, e6, h61, h62⟩, ⟨_, _, e7, h71, h72⟩, ⟨_, _, e8, h81, h82⟩⟩ := hv.open_
  cases e5; cases e6; cases e7; cases e8
  have := fit_f h hw most 5001 (by decide)
  rw [he] at this
  exact scale_Fit.calls 5001 h.f0 h.f1 h.f2 h.f3 h.f4 A5 c5 _ A6 c6 _ A7 c7 _ A8 c8 _ most t e w h52 h51 h62 h61 h72 h71 h82 h81 this
theorem refMany_c (h : Hi) (hw : wfH h) (hc : checkR h = 0) (h7 : h.f7.length ≤ 4096) (h8 : h.f8.length ≤ 4096) (tt : Int) (ht0 : -4 ≤ tt) (ht1 : tt ≤ h.f0 + 1) (w : World) (v : Value) (hv : HR w v h) : Calls Try.prog 40 #[v, .int .i64 tt] w fun r w' => r = .returned (.int .i64 (manyR h tt)) ∧ Below w.heap.size w w' := by
  obtain ⟨v5, v6, v7, v8, rfl, ⟨A5, c5, rfl, h51, h52⟩, ⟨A6, c6, rfl, h61, h62⟩, ⟨A7, c7, rfl, h71, h72⟩, ⟨A8, c8, rfl, h81, h82⟩⟩ := hv
  exact tidepoleref25_Many.calls 5130000 h.f0 h.f1 h.f2 h.f3 h.f4 A5 c5 _ A6 c6 _ A7 c7 _ A8 c8 _ tt _ w h52 h51 h62 h61 h72 h71 h82 h81 (refMany_eq h hw hc h7 h8 tt ht0 ht1 _ (Nat.le_refl _))
end Go.Proofs.Ytooiccpmngmapaa.P
namespace Go.Proofs.Ytooiccpmngmapaa.P
open Go.RowKit Go.Shelf Go.Proofs.YtooiccpmngmapaaW.PrintWords Go.Proofs.YtooiccpmngmapaaW.PrintLast Go.Proofs.YtooiccpmngmapaaW.PrintMore
set_option maxHeartbeats 64000000 in
set_option maxRecDepth 100000 in
theorem scaleFits_c (a : Hi) (most : Int) (hwa : wfI a) (hmo : i64 most) (w : World) (u x1 : Value) (hx1 : x1 = .int .i64 most) (hua : HI w u a) : Calls Try.prog 7 #[u, x1] w fun e w' => e = .returned (.bool true) ∧ Below w.heap.size w w' := by
  subst hx1
  have hud := Try.underlying29
  obtain ⟨b1, hb1, cs⟩ := small25_c a hwa.2.2.2.2.2.1 hwa.2.2.2.2.2.2.1
  have CS := Aside0.mk cs
  clear cs
  cases b1 with
  | false =>
    clear hb1
    obtain ⟨A5a, c5a, A6a, c6a, A7a, c7a, A8a, c8a, e, -⟩ := hua.open_
    subst e
    have B := Aside0.mk (below_alloc (Below.refl w.heap.size w) (.cells #[.int .i64 a.f0, .int .u64 a.f1, .int .u64 a.f2, .int .u64 a.f3, .int .u64 a.f4, .slice A5a a.f5.length c5a, .slice A6a a.f6.length c6a, .slice A7a a.f7.length c7a, .slice A8a a.f8.length c8a] 29))
    have X := Aside0.mk (Blk.new w #[.int .i64 a.f0, .int .u64 a.f1, .int .u64 a.f2, .int .u64 a.f3, .int .u64 a.f4, .slice A5a a.f5.length c5a, .slice A6a a.f6.length c6a, .slice A7a a.f7.length c7a, .slice A8a a.f8.length c8a] 29)
    have hx := fun i => X.out.cell i
    have HA := Aside0.mk (hua.below B.out)
    clear hua
    go_enter Try.func7, Try.ntmps7
    go_wp2_with (first | (go_at_call 25; (with_reducible refine (CS.out _ _ HA.out).mono ?_); rintro e W1 ⟨rfl, hb⟩; replace B := Aside0.mk (below_then B.out B.out.size hb); replace HA := Aside0.mk (HA.out.below hb); replace X := Aside0.mk (X.out.below hb); replace hx := fun i => X.out.cell i; clear  hb) | (go_at_call 26; (with_reducible refine (awake25_c _).mono ?_); rintro e W2 ⟨rfl, hb⟩; replace B := Aside0.mk (below_then B.out B.out.size hb); replace HA := Aside0.mk (HA.out.below hb); replace X := Aside0.mk (X.out.below hb); replace hx := fun i => X.out.cell i; clear  hb))
    go_ret
    exact ⟨rfl, B.out⟩
  | true =>
  obtain ⟨n5, n6, n7, n8⟩ := hb1 rfl
  have hWa := wfH_of hwa (by omega) (by omega)
  have I1 := Aside0.mk (ints25_c a (by omega) (by omega))
  have c1 := refCheck_c a hWa
  by_cases hc : checkR a = 0
  rotate_left
  · have hf : fitR a most = (0, checkR a) := by unfold fitR; rw [if_pos hc]
    have f1 := fit25_c a hWa most _ _ hf
    generalize checkR a = ec at *
    have C1 := Aside0.mk c1
    have F1 := Aside0.mk f1
    have d1 : (ec != 0) = true := bne_iff_ne.2 hc
    have d2 : (ec == ec) = true := beq_self_eq_true _
    clear hc hf f1 c1 n5 n6 n7 n8 hb1 hwa hmo hWa
    obtain ⟨A5a, c5a, A6a, c6a, A7a, c7a, A8a, c8a, e, -⟩ := hua.open_
    subst e
    have B := Aside0.mk (below_alloc (Below.refl w.heap.size w) (.cells #[.int .i64 a.f0, .int .u64 a.f1, .int .u64 a.f2, .int .u64 a.f3, .int .u64 a.f4, .slice A5a a.f5.length c5a, .slice A6a a.f6.length c6a, .slice A7a a.f7.length c7a, .slice A8a a.f8.length c8a] 29))
    have X := Aside0.mk (Blk.new w #[.int .i64 a.f0, .int .u64 a.f1, .int .u64 a.f2, .int .u64 a.f3, .int .u64 a.f4, .slice A5a a.f5.length c5a, .slice A6a a.f6.length c6a, .slice A7a a.f7.length c7a, .slice A8a a.f8.length c8a] 29)
    have hx := fun i => X.out.cell i
    have HA := Aside0.mk (hua.below B.out)
    clear hua
    go_enter Try.func7, Try.ntmps7
    go_wp2_with (first | (go_at_call 25; (with_reducible refine (CS.out _ _ HA.out).mono ?_); rintro e W1 ⟨rfl, hb⟩; replace B := Aside0.mk (below_then B.out B.out.size hb); replace HA := Aside0.mk (HA.out.below hb); replace X := Aside0.mk (X.out.below hb); replace hx := fun i => X.out.cell i; clear  hb) | (go_at_call 38; (with_reducible refine (F1.out _ _ HA.out).mono ?_); rintro e W2 ⟨rfl, hb⟩; replace B := Aside0.mk (below_then B.out B.out.size hb); replace HA := Aside0.mk (HA.out.below hb); replace X := Aside0.mk (X.out.below hb); replace hx := fun i => X.out.cell i; clear  hb) | (go_at_call 29; (with_reducible refine (I1.out _ _ HA.out).mono ?_); rintro e W3 ⟨ra, rfl, hr, hb⟩; replace B := Aside0.mk (below_then B.out B.out.size hb); replace HA := Aside0.mk (HA.out.below hb); replace X := Aside0.mk (X.out.below hb); replace hx := fun i => X.out.cell i; have RA := Aside0.mk hr; (try clear RB); clear hr hb) | (go_at_call 39; (with_reducible refine (C1.out _ _ RA.out).mono ?_); rintro e W4 ⟨rfl, hb⟩; replace B := Aside0.mk (below_then B.out B.out.size hb); replace HA := Aside0.mk (HA.out.below hb); replace X := Aside0.mk (X.out.below hb); replace hx := fun i => X.out.cell i; clear RA; clear  hb) | (go_at_call 40; (with_reducible refine (M1.out _ _ RA.out).mono ?_); rintro e W5 ⟨rfl, hb⟩; replace B := Aside0.mk (below_then B.out B.out.size hb); replace HA := Aside0.mk (HA.out.below hb); replace X := Aside0.mk (X.out.below hb); replace hx := fun i => X.out.cell i; clear RA; clear  hb) | (go_at_call 40; (with_reducible refine (M2.out _ _ RA.out).mono ?_); rintro e W6 ⟨rfl, hb⟩; replace B := Aside0.mk (below_then B.out B.out.size hb); replace HA := Aside0.mk (HA.out.below hb); replace X := Aside0.mk (X.out.below hb); replace hx := fun i => X.out.cell i; clear RA; clear  hb) | (go_at_call 40; (with_reducible refine (M3.out _ _ RA.out).mono ?_); rintro e W7 ⟨rfl, hb⟩; replace B := Aside0.mk (below_then B.out B.out.size hb); replace HA := Aside0.mk (HA.out.below hb); replace X := Aside0.mk (X.out.below hb); replace hx := fun i => X.out.cell i; clear RA; clear  hb) | (go_at_call 26; (with_reducible refine (awake25_c _).mono ?_); rintro e W8 ⟨rfl, hb⟩; replace B := Aside0.mk (below_then B.out B.out.size hb); replace HA := Aside0.mk (HA.out.below hb); replace X := Aside0.mk (X.out.below hb); replace hx := fun i => X.out.cell i; clear  hb))
    go_ret
    exact ⟨rfl, B.out⟩
  rw [hc] at c1
  have C1 := Aside0.mk c1
  clear c1
  by_cases hm : most < 0
  · have hf : fitR a most = (0, 11) := by unfold fitR; rw [if_neg (by simp [hc]), if_pos hm]
    have F1 := Aside0.mk (fit25_c a hWa most _ _ hf)
    have d1 : decide (most < 0) = true := decide_eq_true hm
    clear hc hf hm n5 n6 n7 n8 hb1 hwa hmo hWa
    obtain ⟨A5a, c5a, A6a, c6a, A7a, c7a, A8a, c8a, e, -⟩ := hua.open_
    subst e
    have B := Aside0.mk (below_alloc (Below.refl w.heap.size w) (.cells #[.int .i64 a.f0, .int .u64 a.f1, .int .u64 a.f2, .int .u64 a.f3, .int .u64 a.f4, .slice A5a a.f5.length c5a, .slice A6a a.f6.length c6a, .slice A7a a.f7.length c7a, .slice A8a a.f8.length c8a] 29))
    have X := Aside0.mk (Blk.new w #[.int .i64 a.f0, .int .u64 a.f1, .int .u64 a.f2, .int .u64 a.f3, .int .u64 a.f4, .slice A5a a.f5.length c5a, .slice A6a a.f6.length c6a, .slice A7a a.f7.length c7a, .slice A8a a.f8.length c8a] 29)
    have hx := fun i => X.out.cell i
    have HA := Aside0.mk (hua.below B.out)
    clear hua
    go_enter Try.func7, Try.ntmps7
    go_wp2_with (first | (go_at_call 25; (with_reducible refine (CS.out _ _ HA.out).mono ?_); rintro e W1 ⟨rfl, hb⟩; replace B := Aside0.mk (below_then B.out B.out.size hb); replace HA := Aside0.mk (HA.out.below hb); replace X := Aside0.mk (X.out.below hb); replace hx := fun i => X.out.cell i; clear  hb) | (go_at_call 38; (with_reducible refine (F1.out _ _ HA.out).mono ?_); rintro e W2 ⟨rfl, hb⟩; replace B := Aside0.mk (below_then B.out B.out.size hb); replace HA := Aside0.mk (HA.out.below hb); replace X := Aside0.mk (X.out.below hb); replace hx := fun i => X.out.cell i; clear  hb) | (go_at_call 29; (with_reducible refine (I1.out _ _ HA.out).mono ?_); rintro e W3 ⟨ra, rfl, hr, hb⟩; replace B := Aside0.mk (below_then B.out B.out.size hb); replace HA := Aside0.mk (HA.out.below hb); replace X := Aside0.mk (X.out.below hb); replace hx := fun i => X.out.cell i; have RA := Aside0.mk hr; (try clear RB); clear hr hb) | (go_at_call 39; (with_reducible refine (C1.out _ _ RA.out).mono ?_); rintro e W4 ⟨rfl, hb⟩; replace B := Aside0.mk (below_then B.out B.out.size hb); replace HA := Aside0.mk (HA.out.below hb); replace X := Aside0.mk (X.out.below hb); replace hx := fun i => X.out.cell i; clear RA; clear  hb) | (go_at_call 40; (with_reducible refine (M1.out _ _ RA.out).mono ?_); rintro e W5 ⟨rfl, hb⟩; replace B := Aside0.mk (below_then B.out B.out.size hb); replace HA := Aside0.mk (HA.out.below hb); replace X := Aside0.mk (X.out.below hb); replace hx := fun i => X.out.cell i; clear RA; clear  hb) | (go_at_call 40; (with_reducible refine (M2.out _ _ RA.out).mono ?_); rintro e W6 ⟨rfl, hb⟩; replace B := Aside0.mk (below_then B.out B.out.size hb); replace HA := Aside0.mk (HA.out.below hb); replace X := Aside0.mk (X.out.below hb); replace hx := fun i => X.out.cell i; clear RA; clear  hb) | (go_at_call 40; (with_reducible refine (M3.out _ _ RA.out).mono ?_); rintro e W7 ⟨rfl, hb⟩; replace B := Aside0.mk (below_then B.out B.out.size hb); replace HA := Aside0.mk (HA.out.below hb); replace X := Aside0.mk (X.out.below hb); replace hx := fun i => X.out.cell i; clear RA; clear  hb) | (go_at_call 26; (with_reducible refine (awake25_c _).mono ?_); rintro e W8 ⟨rfl, hb⟩; replace B := Aside0.mk (below_then B.out B.out.size hb); replace HA := Aside0.mk (HA.out.below hb); replace X := Aside0.mk (X.out.below hb); replace hx := fun i => X.out.cell i; clear  hb))
    go_ret
    exact ⟨rfl, B.out⟩
  have d1 : decide (most < 0) = false := decide_eq_false hm
  have hs := checkR_schema hc
  have M1 := Aside0.mk (refMany_c a hWa hc (by omega) (by omega) (-4) (by omega) (by omega))
  rcases fit_plain hc (most := most) (by omega) with ⟨p1, hf⟩ | ⟨p1, t, hf, t0, t1, t2, t3⟩
  · have F1 := Aside0.mk (fit25_c a hWa most _ _ hf)
    generalize manyR a (-4) = m4 at *
    have d2 : decide (m4 > most) = true := decide_eq_true p1
    have d2' : decide (most < m4) = true := decide_eq_true p1
    clear hc hf hm hs p1 n5 n6 n7 n8 hb1 hwa hmo hWa
    obtain ⟨A5a, c5a, A6a, c6a, A7a, c7a, A8a, c8a, e, -⟩ := hua.open_
    subst e
    have B := Aside0.mk (below_alloc (Below.refl w.heap.size w) (.cells #[.int .i64 a.f0, .int .u64 a.f1, .int .u64 a.f2, .int .u64 a.f3, .int .u64 a.f4, .slice A5a a.f5.length c5a, .slice A6a a.f6.length c6a, .slice A7a a.f7.length c7a, .slice A8a a.f8.length c8a] 29))
    have X := Aside0.mk (Blk.new w #[.int .i64 a.f0, .int .u64 a.f1, .int .u64 a.f2, .int .u64 a.f3, .int .u64 a.f4, .slice A5a a.f5.length c5a, .slice A6a a.f6.length c6a, .slice A7a a.f7.length c7a, .slice A8a a.f8.length c8a] 29)
    have hx := fun i => X.out.cell i
    have HA := Aside0.mk (hua.below B.out)
    clear hua
    go_enter Try.func7, Try.ntmps7
    go_wp2_with (first | (go_at_call 25; (with_reducible refine (CS.out _ _ HA.out).mono ?_); rintro e W1 ⟨rfl, hb⟩; replace B := Aside0.mk (below_then B.out B.out.size hb); replace HA := Aside0.mk (HA.out.below hb); replace X := Aside0.mk (X.out.below hb); replace hx := fun i => X.out.cell i; clear  hb) | (go_at_call 38; (with_reducible refine (F1.out _ _ HA.out).mono ?_); rintro e W2 ⟨rfl, hb⟩; replace B := Aside0.mk (below_then B.out B.out.size hb); replace HA := Aside0.mk (HA.out.below hb); replace X := Aside0.mk (X.out.below hb); replace hx := fun i => X.out.cell i; clear  hb) | (go_at_call 29; (with_reducible refine (I1.out _ _ HA.out).mono ?_); rintro e W3 ⟨ra, rfl, hr, hb⟩; replace B := Aside0.mk (below_then B.out B.out.size hb); replace HA := Aside0.mk (HA.out.below hb); replace X := Aside0.mk (X.out.below hb); replace hx := fun i => X.out.cell i; have RA := Aside0.mk hr; (try clear RB); clear hr hb) | (go_at_call 39; (with_reducible refine (C1.out _ _ RA.out).mono ?_); rintro e W4 ⟨rfl, hb⟩; replace B := Aside0.mk (below_then B.out B.out.size hb); replace HA := Aside0.mk (HA.out.below hb); replace X := Aside0.mk (X.out.below hb); replace hx := fun i => X.out.cell i; clear RA; clear  hb) | (go_at_call 40; (with_reducible refine (M1.out _ _ RA.out).mono ?_); rintro e W5 ⟨rfl, hb⟩; replace B := Aside0.mk (below_then B.out B.out.size hb); replace HA := Aside0.mk (HA.out.below hb); replace X := Aside0.mk (X.out.below hb); replace hx := fun i => X.out.cell i; clear RA; clear  hb) | (go_at_call 40; (with_reducible refine (M2.out _ _ RA.out).mono ?_); rintro e W6 ⟨rfl, hb⟩; replace B := Aside0.mk (below_then B.out B.out.size hb); replace HA := Aside0.mk (HA.out.below hb); replace X := Aside0.mk (X.out.below hb); replace hx := fun i => X.out.cell i; clear RA; clear  hb) | (go_at_call 40; (with_reducible refine (M3.out _ _ RA.out).mono ?_); rintro e W7 ⟨rfl, hb⟩; replace B := Aside0.mk (below_then B.out B.out.size hb); replace HA := Aside0.mk (HA.out.below hb); replace X := Aside0.mk (X.out.below hb); replace hx := fun i => X.out.cell i; clear RA; clear  hb) | (go_at_call 26; (with_reducible refine (awake25_c _).mono ?_); rintro e W8 ⟨rfl, hb⟩; replace B := Aside0.mk (below_then B.out B.out.size hb); replace HA := Aside0.mk (HA.out.below hb); replace X := Aside0.mk (X.out.below hb); replace hx := fun i => X.out.cell i; clear  hb))
    go_ret
    exact ⟨rfl, B.out⟩
  have F1 := Aside0.mk (fit25_c a hWa most _ _ hf)
  have M2 := Aside0.mk (refMany_c a hWa hc (by omega) (by omega) t (by omega) (by omega))
  have M3' := refMany_c a hWa hc (by omega) (by omega) (t + 1) (by omega) (by omega)
  generalize manyR a (-4) = m4 at *
  generalize manyR a t = mt at *
  generalize manyR a (t + 1) = mu at *
  have d2 : decide (m4 > most) = false := decide_eq_false (by omega)
  have d2' : decide (most < m4) = false := decide_eq_false (by omega)
  have d3 : decide (t < -4) = false := decide_eq_false (by omega)
  have d4 : decide (t > a.f0) = false := decide_eq_false (by omega)
  have d4' : decide (a.f0 < t) = false := decide_eq_false (by omega)
  have d5 : decide (mt > most) = false := decide_eq_false (by omega)
  have d5' : decide (most < mt) = false := decide_eq_false (by omega)
  by_cases hS : t = a.f0
  · have d6 : (t == a.f0) = true := beq_iff_eq.2 hS
    clear hc hf hm hs p1 t0 t1 t2 t3 hS M3' n5 n6 n7 n8 hb1 hwa hmo hWa
    obtain ⟨A5a, c5a, A6a, c6a, A7a, c7a, A8a, c8a, e, -⟩ := hua.open_
    subst e
    have B := Aside0.mk (below_alloc (Below.refl w.heap.size w) (.cells #[.int .i64 a.f0, .int .u64 a.f1, .int .u64 a.f2, .int .u64 a.f3, .int .u64 a.f4, .slice A5a a.f5.length c5a, .slice A6a a.f6.length c6a, .slice A7a a.f7.length c7a, .slice A8a a.f8.length c8a] 29))
    have X := Aside0.mk (Blk.new w #[.int .i64 a.f0, .int .u64 a.f1, .int .u64 a.f2, .int .u64 a.f3, .int .u64 a.f4, .slice A5a a.f5.length c5a, .slice A6a a.f6.length c6a, .slice A7a a.f7.length c7a, .slice A8a a.f8.length c8a] 29)
    have hx := fun i => X.out.cell i
    have HA := Aside0.mk (hua.below B.out)
    clear hua
    go_enter Try.func7, Try.ntmps7
    go_wp2_with (first | (go_at_call 25; (with_reducible refine (CS.out _ _ HA.out).mono ?_); rintro e W1 ⟨rfl, hb⟩; replace B := Aside0.mk (below_then B.out B.out.size hb); replace HA := Aside0.mk (HA.out.below hb); replace X := Aside0.mk (X.out.below hb); replace hx := fun i => X.out.cell i; clear  hb) | (go_at_call 38; (with_reducible refine (F1.out _ _ HA.out).mono ?_); rintro e W2 ⟨rfl, hb⟩; replace B := Aside0.mk (below_then B.out B.out.size hb); replace HA := Aside0.mk (HA.out.below hb); replace X := Aside0.mk (X.out.below hb); replace hx := fun i => X.out.cell i; clear  hb) | (go_at_call 29; (with_reducible refine (I1.out _ _ HA.out).mono ?_); rintro e W3 ⟨ra, rfl, hr, hb⟩; replace B := Aside0.mk (below_then B.out B.out.size hb); replace HA := Aside0.mk (HA.out.below hb); replace X := Aside0.mk (X.out.below hb); replace hx := fun i => X.out.cell i; have RA := Aside0.mk hr; (try clear RB); clear hr hb) | (go_at_call 39; (with_reducible refine (C1.out _ _ RA.out).mono ?_); rintro e W4 ⟨rfl, hb⟩; replace B := Aside0.mk (below_then B.out B.out.size hb); replace HA := Aside0.mk (HA.out.below hb); replace X := Aside0.mk (X.out.below hb); replace hx := fun i => X.out.cell i; clear RA; clear  hb) | (go_at_call 40; (with_reducible refine (M1.out _ _ RA.out).mono ?_); rintro e W5 ⟨rfl, hb⟩; replace B := Aside0.mk (below_then B.out B.out.size hb); replace HA := Aside0.mk (HA.out.below hb); replace X := Aside0.mk (X.out.below hb); replace hx := fun i => X.out.cell i; clear RA; clear  hb) | (go_at_call 40; (with_reducible refine (M2.out _ _ RA.out).mono ?_); rintro e W6 ⟨rfl, hb⟩; replace B := Aside0.mk (below_then B.out B.out.size hb); replace HA := Aside0.mk (HA.out.below hb); replace X := Aside0.mk (X.out.below hb); replace hx := fun i => X.out.cell i; clear RA; clear  hb) | (go_at_call 40; (with_reducible refine (M3.out _ _ RA.out).mono ?_); rintro e W7 ⟨rfl, hb⟩; replace B := Aside0.mk (below_then B.out B.out.size hb); replace HA := Aside0.mk (HA.out.below hb); replace X := Aside0.mk (X.out.below hb); replace hx := fun i => X.out.cell i; clear RA; clear  hb) | (go_at_call 26; (with_reducible refine (awake25_c _).mono ?_); rintro e W8 ⟨rfl, hb⟩; replace B := Aside0.mk (below_then B.out B.out.size hb); replace HA := Aside0.mk (HA.out.below hb); replace X := Aside0.mk (X.out.below hb); replace hx := fun i => X.out.cell i; clear  hb))
    go_ret
    exact ⟨rfl, B.out⟩
  · have d6 : (t == a.f0) = false := beq_eq_false_iff_ne.2 hS
    have h7 : mu > most := by rcases t3 with t3 | t3; exact absurd t3 hS; exact t3
    have d7 : decide (mu > most) = true := decide_eq_true h7
    have d7' : decide (most < mu) = true := decide_eq_true h7
    obtain ⟨tt, htt⟩ : ∃ tt, tt = t + 1 := ⟨_, rfl⟩
    have hwr : IntKind.i64.wrap (t + 1) = tt := by rw [i64_w, htt]; exact wrap_id (by omega) (by omega)
    have hwr' : wrap64 (t + 1) = tt := by rw [htt]; exact wrap_id (by omega) (by omega)
    rw [← htt] at M3'
    have M3 := Aside0.mk M3'
    clear hc hf hm hs p1 t0 t1 t2 t3 hS h7 htt M3' n5 n6 n7 n8 hb1 hwa hmo hWa
    obtain ⟨A5a, c5a, A6a, c6a, A7a, c7a, A8a, c8a, e, -⟩ := hua.open_
    subst e
    have B := Aside0.mk (below_alloc (Below.refl w.heap.size w) (.cells #[.int .i64 a.f0, .int .u64 a.f1, .int .u64 a.f2, .int .u64 a.f3, .int .u64 a.f4, .slice A5a a.f5.length c5a, .slice A6a a.f6.length c6a, .slice A7a a.f7.length c7a, .slice A8a a.f8.length c8a] 29))
    have X := Aside0.mk (Blk.new w #[.int .i64 a.f0, .int .u64 a.f1, .int .u64 a.f2, .int .u64 a.f3, .int .u64 a.f4, .slice A5a a.f5.length c5a, .slice A6a a.f6.length c6a, .slice A7a a.f7.length c7a, .slice A8a a.f8.length c8a] 29)
    have hx := fun i => X.out.cell i
    have HA := Aside0.mk (hua.below B.out)
    clear hua
    go_enter Try.func7, Try.ntmps7
    go_wp2_with (first | (go_at_call 25; (with_reducible refine (CS.out _ _ HA.out).mono ?_); rintro e W1 ⟨rfl, hb⟩; replace B := Aside0.mk (below_then B.out B.out.size hb); replace HA := Aside0.mk (HA.out.below hb); replace X := Aside0.mk (X.out.below hb); replace hx := fun i => X.out.cell i; clear  hb) | (go_at_call 38; (with_reducible refine (F1.out _ _ HA.out).mono ?_); rintro e W2 ⟨rfl, hb⟩; replace B := Aside0.mk (below_then B.out B.out.size hb); replace HA := Aside0.mk (HA.out.below hb); replace X := Aside0.mk (X.out.below hb); replace hx := fun i => X.out.cell i; clear  hb) | (go_at_call 29; (with_reducible refine (I1.out _ _ HA.out).mono ?_); rintro e W3 ⟨ra, rfl, hr, hb⟩; replace B := Aside0.mk (below_then B.out B.out.size hb); replace HA := Aside0.mk (HA.out.below hb); replace X := Aside0.mk (X.out.below hb); replace hx := fun i => X.out.cell i; have RA := Aside0.mk hr; (try clear RB); clear hr hb) | (go_at_call 39; (with_reducible refine (C1.out _ _ RA.out).mono ?_); rintro e W4 ⟨rfl, hb⟩; replace B := Aside0.mk (below_then B.out B.out.size hb); replace HA := Aside0.mk (HA.out.below hb); replace X := Aside0.mk (X.out.below hb); replace hx := fun i => X.out.cell i; clear RA; clear  hb) | (go_at_call 40; (with_reducible refine (M1.out _ _ RA.out).mono ?_); rintro e W5 ⟨rfl, hb⟩; replace B := Aside0.mk (below_then B.out B.out.size hb); replace HA := Aside0.mk (HA.out.below hb); replace X := Aside0.mk (X.out.below hb); replace hx := fun i => X.out.cell i; clear RA; clear  hb) | (go_at_call 40; (with_reducible refine (M2.out _ _ RA.out).mono ?_); rintro e W6 ⟨rfl, hb⟩; replace B := Aside0.mk (below_then B.out B.out.size hb); replace HA := Aside0.mk (HA.out.below hb); replace X := Aside0.mk (X.out.below hb); replace hx := fun i => X.out.cell i; clear RA; clear  hb) | (go_at_call 40; (with_reducible refine (M3.out _ _ RA.out).mono ?_); rintro e W7 ⟨rfl, hb⟩; replace B := Aside0.mk (below_then B.out B.out.size hb); replace HA := Aside0.mk (HA.out.below hb); replace X := Aside0.mk (X.out.below hb); replace hx := fun i => X.out.cell i; clear RA; clear  hb) | (go_at_call 26; (with_reducible refine (awake25_c _).mono ?_); rintro e W8 ⟨rfl, hb⟩; replace B := Aside0.mk (below_then B.out B.out.size hb); replace HA := Aside0.mk (HA.out.below hb); replace X := Aside0.mk (X.out.below hb); replace hx := fun i => X.out.cell i; clear  hb))
    go_ret
    exact ⟨rfl, B.out⟩
def tidepolelaw25_ScaleFits.f (s0 z0 zc0 ct0 sm0 : Int) (l0_5 l0_6 : List Sp) (l0_7 l0_8 : List Int) (most : Int) : Option Bool := if wfI ⟨s0, z0, zc0, ct0, sm0, l0_5, l0_6, l0_7, l0_8⟩ ∧ i64 most then some true else none
theorem tidepolelaw25_ScaleFits.calls (s0 : Int) (z0 : Int) (zc0 : Int) (ct0 : Int) (sm0 : Int) (A0_5 : Option Addr) (c0_5 : Nat) (l0_5 : List Sp) (A0_6 : Option Addr) (c0_6 : Nat) (l0_6 : List Sp) (A0_7 : Option Addr) (c0_7 : Nat) (l0_7 : List Int) (A0_8 : Option Addr) (c0_8 : Nat) (l0_8 : List Int) (most : Int) (r : Bool) (w : World) (hr0_5 : Kd.C kSp w A0_5 l0_5.length l0_5) (hc0_5 : l0_5.length ≤ c0_5) (hr0_6 : Kd.C kSp w A0_6 l0_6.length l0_6) (hc0_6 : l0_6.length ≤ c0_6) (hr0_7 : Kd.C (Kd.int .i64) w A0_7 l0_7.length l0_7) (hc0_7 : l0_7.length ≤ c0_7) (hr0_8 : Kd.C (Kd.int .i64) w A0_8 l0_8.length l0_8) (hc0_8 : l0_8.length ≤ c0_8) (h : tidepolelaw25_ScaleFits.f s0 z0 zc0 ct0 sm0 l0_5 l0_6 l0_7 l0_8 most = some r) :
    Calls Try.prog 7 #[.agg #[.int .i64 s0, .int .u64 z0, .int .u64 zc0, .int .u64 ct0, .int .u64 sm0, .slice A0_5 l0_5.length c0_5, .slice A0_6 l0_6.length c0_6, .slice A0_7 l0_7.length c0_7, .slice A0_8 l0_8.length c0_8], .int .i64 most] w fun e w' => e = .returned (.bool r) ∧ Below w.heap.size w w' := by
  obtain ⟨⟨q0, q1⟩, rfl⟩ := of_ite_some h
  exact scaleFits_c _ _ q0 q1 w _ _ rfl (HI.mk (h := ⟨s0, z0, zc0, ct0, sm0, l0_5, l0_6, l0_7, l0_8⟩) (.of hr0_5 hc0_5) (.of hr0_6 hc0_6) (.of hr0_7 hc0_7) (.of hr0_8 hc0_8))
end Go.Proofs.Ytooiccpmngmapaa.P
namespace Go.Proofs.Ytooiccpmngmapaa.P
def headSigns : List Char := List.map Char.ofNat [104, 97, 114, 110, 101, 115, 115, 32, 50, 100, 53, 99, 55, 48, 56, 102, 52, 98, 49, 57, 100, 52, 102, 50, 51, 51, 98, 56, 97, 99, 48, 56, 102, 97, 54, 99, 97, 50, 48, 100, 54, 99, 52, 98, 101, 97, 49, 51, 56, 101, 55, 98, 51, 53, 101, 57, 55, 55, 52, 56, 53, 99, 50, 100, 49, 101, 97, 97, 48, 102, 57, 55, 32, 99, 117, 116, 32, 97, 116, 32, 116, 105, 100, 101, 112, 111, 108, 101, 47, 116, 105, 100, 101, 112, 111, 108, 101, 108, 97, 119, 50, 56, 46, 82, 105, 115, 101, 83, 112, 108, 105, 116, 115, 32, 116, 105, 100, 101, 112, 111, 108, 101, 47, 116, 105, 100, 101, 112, 111, 108, 101, 108, 97, 119, 50, 56, 46, 82, 105, 115, 101, 83, 116, 101, 97, 100, 121, 32, 116, 105, 100, 101, 112, 111, 108, 101, 47, 116, 105, 100, 101, 112, 111, 108, 101, 108, 97, 119, 50, 53, 46, 83, 99, 97, 108, 101, 73, 110, 116, 115, 32, 116, 105, 100, 101, 112, 111, 108, 101, 47, 116, 105, 100, 101, 112, 111, 108, 101, 108, 97, 119, 50, 53, 46, 83, 99, 97, 108, 101, 70, 108, 111, 97, 116, 115, 32, 116, 105, 100, 101, 112, 111, 108, 101, 47, 116, 105, 100, 101, 112, 111, 108, 101, 108, 97, 119, 50, 53, 46, 83, 99, 97, 108, 101, 70, 105, 116, 115, 32, 116, 105, 100, 101, 112, 111, 108, 101, 47, 116, 105, 100, 101, 112, 111, 108, 101, 108, 97, 119, 50, 55, 46, 65, 100, 100, 83, 117, 109, 115, 32, 116, 105, 100, 101, 112, 111, 108, 101, 47, 116, 105, 100, 101, 112, 111, 108, 101, 108, 97, 119, 50, 55, 46, 65, 100, 100, 73, 110, 116, 115, 32, 116, 105, 100, 101, 112, 111, 108, 101, 47, 116, 105, 100, 101, 112, 111, 108, 101, 108, 97, 119, 50, 55, 46, 65, 100, 100, 84, 117, 114, 110, 115, 32, 116, 105, 100, 101, 112, 111, 108, 101, 47, 116, 105, 100, 101, 112, 111, 108, 101, 108, 97, 119, 50, 55, 46, 65, 100, 100, 74, 111, 105, 110, 115, 32, 116, 105, 100, 101, 112, 111, 108, 101, 47, 116, 105, 100, 101, 112, 111, 108, 101, 108, 97, 119, 50, 55, 46, 65, 100, 100, 76, 101, 115, 115, 32, 116, 105, 100, 101, 112, 111, 108, 101, 47, 116, 105, 100, 101, 112, 111, 108, 101, 108, 97, 119, 50, 55, 46, 65, 100, 100, 66, 97, 99, 107, 32, 116, 105, 100, 101, 112, 111, 108, 101, 47, 116, 105, 100, 101, 112, 111, 108, 101, 108, 97, 119, 50, 55, 46, 65, 100, 100, 65, 108, 108, 32, 116, 105, 100, 101, 112, 111, 108, 101, 47, 116, 105, 100, 101, 112, 111, 108, 101, 108, 97, 119, 50, 56, 46, 82, 105, 115, 101, 78, 101, 118, 101, 114]
theorem head_is : Try.prog.initOrder = String.ofList headSigns := by kernel_rfl
theorem head_signs : Try.prog.initOrder.toList = headSigns := by rw [head_is]; exact String.toList_ofList
theorem head_first : (behindMainWord (wordsSigns headSigns)).head? = some "cut".toList := by kernel_rfl
theorem head_words : ∃ r, behindMainWord (wordsSigns headSigns) = "cut".toList :: r := by have h := head_first; cases h2 : behindMainWord (wordsSigns headSigns) with | nil => rw [h2] at h; cases h | cons c r => rw [h2] at h; injection h with h; exact ⟨r, by rw [h]⟩
theorem strip_cut (r : List (List Char)) : stripLifts liftWords ("cut".toList :: r) = ([], "cut".toList :: r) := by kernel_rfl
theorem head_lifts : Try.prog.headLifts = [] := by obtain ⟨r, hr⟩ := head_words; unfold Program.headLifts; rw [head_signs, hr, strip_cut]; kernel_rfl
theorem head_doorFits : Try.prog.doorFits [] = true := by kernel_rfl
theorem head_laysLater : Try.prog.laysLater = false := by kernel_rfl
theorem head_bearsReflect : Try.prog.bearsReflect = false := by kernel_rfl
theorem mayEnter_of {P : Program} {L : List Char} {r : List (List Char)} (h1 : P.initOrder.toList = L) (h2 : behindMainWord (wordsSigns L) = "cut".toList :: r) (h3 : P.doorFits [] = true) (h4 : P.laysLater = false) (h5 : P.bearsReflect = false) : P.mayEnter = true := by unfold Program.mayEnter; rw [h1, h2]; simp only [strip_cut, h3, h4, h5]; kernel_rfl
theorem head_mayEnter : Try.prog.mayEnter = true := by obtain ⟨r, hr⟩ := head_words; exact mayEnter_of head_signs hr head_doorFits head_laysLater head_bearsReflect
theorem head_liftsFinal : Try.prog.liftsFinal = false := by obtain ⟨r, hr⟩ := head_words; unfold Program.liftsFinal; rw [head_signs, head_lifts, hr]; kernel_rfl
theorem make_of {P : Program} {L : List Char} {r : List (List Char)} (h1 : P.initOrder.toList = L) (h2 : behindMainWord (wordsSigns L) = "cut".toList :: r) : P.make = some .cut := by unfold Program.make; rw [h1, h2]; kernel_rfl
theorem head_make : Try.prog.make = some .cut := by obtain ⟨r, hr⟩ := head_words; exact make_of head_signs hr
theorem head_laidOut : laidOutB Try.prog = true := by kernel_rfl
theorem head_mapsRowed : mapsRowed Try.prog = true := by kernel_rfl
theorem head_stops : (Try.prog.stops == []) = true := by kernel_rfl
theorem head_stopKnobs : (Try.prog.stopKnobs == []) = true := by kernel_rfl
theorem head_plainKeys : Try.prog.plainKeys = true := by kernel_rfl
theorem head_stopsHeard : Try.prog.stopsHeard = true := by kernel_rfl
end Go.Proofs.Ytooiccpmngmapaa.P
namespace Go.Proofs.Ytooiccpmngmapaa.Pure
open Go.RowKit Go.Proofs.Ytooiccpmngmapaa.P Go.Proofs.YtooiccpmngmapaaW.PrintWords
theorem ScaleFits : ∀ (x0 : S29) (a1 : Int), wf29 x0 → (inI .i64) a1 → tidepolelaw25_ScaleFits.f x0.f0 x0.f1 x0.f2 x0.f3 x0.f4 x0.f5 x0.f6 x0.f7 x0.f8 a1 = some true := fun _ _ h0 h1 => if_pos ⟨wfI_of h0, i64_of h1⟩
end Go.Proofs.Ytooiccpmngmapaa.Pure
namespace Go.Proofs.Ytooiccpmngmapaa.scaleFits
open Go.ChangeShapes Go.WideShapes Go.ChangeAt Go.RowKit Go.Proofs.Ytooiccpmngmapaa.P Go.Proofs.YtooiccpmngmapaaW.PrintWords
theorem own : ownKnob Try.prog.godebug = none := by kernel_rfl
theorem laidOut : laidOutB Try.prog = true := by kernel_rfl
set_option maxRecDepth 100000 in
set_option maxHeartbeats 4000000 in
theorem lifted (os : Os) (started : os.Started) (H : Type) (enc : TypeId × Value → H) :
    ReturnsInHanded {} Try.checked os 7 .any (Rows.scaleFitsSpec.pre6 enc Try.prog Try.f7 Rows.scaleFitsRow.domain false) (Rows.scaleFitsSpec.post enc Try.prog Try.f7 false true false false) := by
  refine returnsInHanded_of_change_sized (C := Try.checked) own started (by kernel_rfl) Try.func7
    (ChangeSpec.witness6 (enc := enc) (C := Try.checked) false ⟨#[], #[.agg #[.int .i64 0, .int .u64 0, .int .u64 0, .int .u64 0, .int .u64 0, .slice none 0 0, .slice none 0 0, .slice none 0 0, .slice none 0 0], .int .i64 0], []⟩ 8 (by kernel_rfl) (by kernel_rfl) (by kernel_rfl) (by kernel_rfl)) ?_
  intro W base args ds gs before hval0 hW hcnd hsz0 _
  have hval : ∀ (j : Nat) t v, Try.f7.params[j]? = some t → args[j]? = some v → Value.okWide Try.prog W .any base t v := hval0
  have hW' := hW
  obtain ⟨p, q, hA0, hV, rfl, hfz, hnd⟩ := hW
  have hA : DataW.TrodAll enc Try.prog W 0 (fun _ => true) true Try.f7.params.toList args.toList ds p := hA0
  rw [Try.params7] at hA hval
  obtain ⟨v0, vs0, d0, ds0, p0, q0, hargs, rfl, rfl, h0, r0⟩ := trodAll_cons hA
  obtain ⟨v1, vs1, d1, ds1, p1, q1, rfl, rfl, rfl, h1, r1⟩ := trodAll_cons r0
  obtain ⟨rfl, rfl, rfl⟩ := trodAll_nil r1
  obtain rfl : args = #[v0, v1] := by cases args; simp_all
  obtain ⟨rfl, rfl⟩ := trodVars_none hV
  have k0 := h0
  have lt0 : ∀ x ∈ p0, x.block < W.heap.size := by obtain ⟨m, hm⟩ := k0; exact DataW.trod_lt m _ _ _ hm
  obtain ⟨fu0, hf0⟩ := h0
  obtain ⟨x0, hK0, w0⟩ := opens29 enc W 0 _ true fu0 _ _ hf0
  obtain ⟨cs0, rfl, _⟩ := okWide_struct Try.underlying29 (hval 0 29 v0 rfl rfl)
  obtain ⟨A0_5, c0_5, A0_6, c0_6, A0_7, c0_7, A0_8, c0_8, he0, h0_5_l, hC0_5, h0_6_l, hC0_6, h0_7_l, hC0_7, h0_8_l, hC0_8⟩ := k29_open hK0
  obtain rfl : cs0 = #[.int .i64 x0.f0, .int .u64 x0.f1, .int .u64 x0.f2, .int .u64 x0.f3, .int .u64 x0.f4, .slice A0_5 x0.f5.length c0_5, .slice A0_6 x0.f6.length c0_6, .slice A0_7 x0.f7.length c0_7, .slice A0_8 x0.f8.length c0_8] := by
    have he : cs0.toList = _ := he0
    exact Array.toList_inj.1 he
  obtain ⟨a1, rfl, rfl, rfl, w1⟩ := open_int Try.underlying3 (hval 1 3 v1 rfl rfl) h1
  clear hA0 hval0 hsz0
  obtain hk := Pure.ScaleFits x0 a1 w0 w1
  refine (P.tidepolelaw25_ScaleFits.calls x0.f0 x0.f1 x0.f2 x0.f3 x0.f4 A0_5 c0_5 x0.f5 A0_6 c0_6 x0.f6 A0_7 c0_7 x0.f7 A0_8 c0_8 x0.f8 a1 true W hC0_5 h0_5_l hC0_6 h0_6_l hC0_7 h0_7_l hC0_8 h0_8_l hk).mono fun e W' ⟨he, bel⟩ => ?_
  subst he
  exact ⟨_, rfl, _, _, _, [], _, [], hW', trodAll_mk1 (shut_bool Try.underlying4 _), (trodAll_cons_mk (Below.trod laidOut (by kernel_rfl) (of_decide_eq_true (by kernel_rfl)) k0 bel lt0) (trodAll_cons_mk (shut_int Try.underlying3 w1) trodAll_mk0)), rfl, bel.frame _, fun h => by cases h⟩
theorem cf0 : (Rows.scaleFitsRow.wf (OpenSpec.ofChange Rows.scaleFitsSpec)) = true := by kernel_rfl
theorem cf1 : (laidOutB Try.prog) = true := P.head_laidOut
theorem cf2 : (mapsRowed Try.prog) = true := P.head_mapsRowed
theorem cf3 : (Try.f7.params.all (Try.prog.readableRec ·)) = true := by kernel_rfl
theorem cf4 : (namedTie Try.prog Rows.scaleFitsRow.named Rows.scaleFitsSpec.vars) = true := by kernel_rfl
theorem cf5 : ((Rows.scaleFitsRow.stops == [])) = true := by kernel_rfl
theorem cf6 : ((Try.prog.stops == [])) = true := P.head_stops
theorem cf7 : ((Rows.scaleFitsRow.knobs == [])) = true := by kernel_rfl
theorem cf8 : ((Try.prog.stopKnobs == [])) = true := P.head_stopKnobs
theorem cf9 : ((Rows.scaleFitsRow.inPlace == Try.prog.inPlace 7)) = true := by kernel_rfl
theorem cf10 : ((Rows.scaleFitsRow.unfollowed == Try.prog.unfollowed 7)) = true := by kernel_rfl
theorem cf11 : ((Rows.scaleFitsRow.recurses == Try.prog.recurses 7)) = true := by kernel_rfl
theorem cf12 : ((Rows.scaleFitsRow.named == Try.prog.varsNamed 7)) = true := by kernel_rfl
theorem cf13 : ((Rows.scaleFitsRow.maps == (Try.f7.params.toList ++ Rows.scaleFitsSpec.plain.varTypes Try.prog).any (Try.prog.mapsRec ·))) = true := by kernel_rfl
theorem cf14 : ((Rows.scaleFitsRow.ifaces == (Try.f7.params.toList ++ Rows.scaleFitsSpec.plain.varTypes Try.prog).any (Try.prog.ifacesRec ·))) = true := by kernel_rfl
theorem cf15 : ((Rows.scaleFitsRow.mapsOut == Try.prog.mapsAmong Try.f7.resultTypes.toList)) = true := by kernel_rfl
theorem cf16 : ((Rows.scaleFitsRow.loops == (Try.f7.params.toList ++ Rows.scaleFitsSpec.plain.varTypes Try.prog).any (Try.prog.loopsFrom ·))) = true := by kernel_rfl
theorem cf17 : ((Rows.scaleFitsRow.wideKeys == (Try.f7.params.toList ++ Rows.scaleFitsSpec.plain.varTypes Try.prog ++ Try.f7.resultTypes.toList).any (Try.prog.wideKeysFrom ·))) = true := by kernel_rfl
theorem cf18 : (Rows.scaleFitsSpec.vars.all (Try.prog.varReadable ·)) = true := by kernel_rfl
theorem cf19 : (Try.f7.resultTypes.all (fun t => Try.prog.readableRec t && decide (t < Try.prog.types.size))) = true := by kernel_rfl
theorem cf20 : ((Rows.scaleFitsRow.ifacesOut == Try.f7.resultTypes.toList.any (Try.prog.ifacesRec ·))) = true := by kernel_rfl
theorem cf21 : ((Rows.scaleFitsRow.loopsOut == Try.f7.resultTypes.toList.any (Try.prog.loopsFrom ·))) = true := by kernel_rfl
theorem cf22 : ((Rows.scaleFitsRow.plainKeys == Try.prog.plainKeys)) = true := by rw [P.head_plainKeys]; kernel_rfl
theorem cf23 : (Rows.scaleFitsRow.shortTexts.isNone) = true := by kernel_rfl
theorem cf24 : (Try.prog.stopsHeard) = true := P.head_stopsHeard
theorem cf25 : (Try.prog.mayEnter) = true := P.head_mayEnter
theorem cf26 : ((Rows.scaleFitsRow.lifted == Try.prog.liftsFinal)) = true := by rw [P.head_liftsFinal]; kernel_rfl
theorem cf27 : ((Try.prog.make == some Rows.scaleFitsRow.make)) = true := by rw [P.head_make]; kernel_rfl
theorem cf28 : ((Rows.scaleFitsRow.kinds == (if Rows.scaleFitsRow.domain.isEmpty then [] else Try.f7.params.toList.map fun t => match Try.prog.underlying t with | some (.int k) => some k | _ => none))) = true := by kernel_rfl
theorem cf29 : ((Rows.scaleFitsRow.pinned == Rows.scaleFitsRow.pinnedBy)) = true := by kernel_rfl
theorem cf30 : ((Rows.scaleFitsRow.veiled == (Try.f7.params.toList ++ Rows.scaleFitsSpec.plain.varTypes Try.prog ++ Try.f7.resultTypes.toList).any (Try.prog.veiledRec ·))) = true := by kernel_rfl
theorem cf31 : (Rows.scaleFitsRow.veiledFits Try.prog Try.f7.params.toList (Try.f7.params.toList ++ Rows.scaleFitsSpec.plain.varTypes Try.prog ++ Try.f7.resultTypes.toList)) = true := by kernel_rfl
theorem band_mk {a b : Bool} (h : a = true) (k : b = true) : (a && b) = true := by rw [h, k]; rfl
theorem closed : joinedFacts Try.prog 7 Try.f7 Rows.scaleFitsSpec Rows.scaleFitsRow = true := by unfold joinedFacts; exact (band_mk (band_mk (band_mk (band_mk (band_mk (band_mk (band_mk (band_mk (band_mk (band_mk (band_mk (band_mk (band_mk (band_mk (band_mk (band_mk (band_mk (band_mk (band_mk (band_mk (band_mk (band_mk (band_mk (band_mk (band_mk (band_mk (band_mk (band_mk (band_mk (band_mk (band_mk cf0 cf1) cf2) cf3) cf4) cf5) cf6) cf7) cf8) cf9) cf10) cf11) cf12) cf13) cf14) cf15) cf16) cf17) cf18) cf19) cf20) cf21) cf22) cf23) cf24) cf25) cf26) cf27) (by kernel_rfl)) cf29) cf30) cf31)
theorem over : Rows.scaleFitsRow.holds Try.pinned (OpenSpec.ofChange Rows.scaleFitsSpec) :=
  OpenClaim.holds_of_wide 7 Try.f7 rfl rfl rfl rfl rfl rfl rfl ⟨rfl, rfl, rfl, rfl, rfl⟩ rfl rfl rfl rfl rfl (by kernel_rfl) Try.func7 closed
    (of_decide_eq_true (by kernel_rfl)) (by unfold Func.isWrapper; first | (rw [if_pos (by decide +kernel)]; kernel_rfl) | (rw [if_neg (by decide +kernel)]; exact ⟨rfl, rfl⟩))
    (fun os started H enc _ => lifted os started H enc)
theorem proved : Rows.ScaleFitsSaid := over
#print axioms proved
end Go.Proofs.Ytooiccpmngmapaa.scaleFits
namespace Go.Proofs.Ytooiccpmngmapaa
theorem scaleFits_holds : Rows.ScaleFitsSaid := scaleFits.proved
end Go.Proofs.Ytooiccpmngmapaa
