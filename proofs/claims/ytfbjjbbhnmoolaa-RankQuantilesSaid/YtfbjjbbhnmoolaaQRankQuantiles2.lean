/- RankQuantiles: the part that this text bears of the proof that the statement answers true for every input. No condition. -/
import Derived.Test.YtfbjjbbhnmoolaaProg
import Derived.Below
import Derived.Deep.Draws
import Derived.Deep.AppendLies
import Derived.Maps.AppendAt
import Derived.OwnWalk
import Derived.Laws.BytesArg
import Derived.Laws.MakeOwn
import Derived.Laws.OwnMore
import Derived.Deep.OwnRows
import Derived.Tactics
import Derived.Lib.ConvBytes
import Derived.Laws.Slices
import Derived.WalkKit
import Derived.KernelRfl
import Derived.RowKit3
import Derived.Deep.LoopGhost
import Derived.Deep.QuietTactic
import Derived.BigQuiet
import Derived.WideLaws
import Derived.Deep.DeepCutAuto
import Derived.Deep.CutBlock
import Derived.Deep.RegionHeld3
import Derived.Laws.Rows
import Derived.Lib.AppendStr
import Derived.ArgAppend
import Derived.Laws.IdiomCopy
import Derived.OrdersHeld
import Derived.Laws.BitsLemmas
import Derived.RowKit
import Derived.Shelf.Abstract
import Derived.WalkSpells
import Derived.RangeFuncNested
import Derived.RangeFuncBound
import Derived.RangeFuncCalls
import Derived.RangeFuncLeaves
import Derived.RangeFuncBox
import Derived.OwnWalkIn
import Derived.TacticsInMore
import Derived.LoopNIn
import Derived.LoopIn
import Derived.Deep.Slices
import Derived.ChangeArms
import Derived.Laws.Externs
import Derived.Shelf.Spec.BitsCarry
import Derived.RegionIn
import Derived.Sort.QuietTacIn
import Derived.Deep.RegionWith
import Derived.Laws.BitsAllLaws
import Derived.Shelf.Lays
import Derived.Shelf.Strings.Builder1
import Derived.Shelf.Small.Bits
import Derived.Shelf.Bits.Mul64
import Derived.Laws.StructEq
import Derived.Test.YtfbjjbbhnmoolaaQRankQuantilesWWords
import Derived.Test.YtfbjjbbhnmoolaaQRankQuantilesWLast
import Derived.Test.YtfbjjbbhnmoolaaQRankQuantilesWTab
import Derived.Test.YtfbjjbbhnmoolaaQRankQuantilesWFour
import Derived.Test.YtfbjjbbhnmoolaaQRankQuantilesWQPut
import Derived.Test.YtfbjjbbhnmoolaaQRankQuantilesWApart
import Derived.Test.YtfbjjbbhnmoolaaQRankQuantilesWArr
import Derived.Test.YtfbjjbbhnmoolaaQRankQuantilesWZeros
import Derived.Test.YtfbjjbbhnmoolaaQRankQuantilesWFoot
import Derived.Test.YtfbjjbbhnmoolaaQRankQuantilesWKept
import Derived.Test.YtfbjjbbhnmoolaaQRankQuantilesWShare
import Derived.Test.YtfbjjbbhnmoolaaQRankQuantilesWN
import Derived.Test.YtfbjjbbhnmoolaaQRankQuantilesWFootNe
import Derived.Test.YtfbjjbbhnmoolaaQRankQuantilesWAt
import Derived.Test.YtfbjjbbhnmoolaaQRankQuantilesWEqStruct
import Derived.Test.YtfbjjbbhnmoolaaQRankQuantilesWRepsOne
import Derived.Test.YtfbjjbbhnmoolaaQRankQuantilesWInv
import Derived.Test.YtfbjjbbhnmoolaaQRankQuantilesWInvWords
import Derived.Test.YtfbjjbbhnmoolaaQRankQuantilesWGuard
import Derived.Test.YtfbjjbbhnmoolaaQRankQuantilesWNEv
import Derived.Test.YtfbjjbbhnmoolaaQRankQuantilesWMore
import Derived.Test.YtfbjjbbhnmoolaaRows
import Derived.Test.YtfbjjbbhnmoolaaQRankQuantiles0
import Derived.Test.YtfbjjbbhnmoolaaQRankQuantiles1
set_option linter.unusedVariables false
set_option linter.unusedSimpArgs false
namespace Go.Proofs.Ytfbjjbbhnmoolaa.P
open Go.RowKit Go.Proofs.YtfbjjbbhnmoolaaW.PrintWords Go.Proofs.YtfbjjbbhnmoolaaW.PrintLast Go.Proofs.YtfbjjbbhnmoolaaW.PrintMore
attribute [local go_sem] max2_int min2_int max_two min_two max_three min_three max_four min_four
def tidepoleref09_Side.l0 : Nat → List Int → List Int → Int → Option (List Int × List Int × Int)
 | 0, _, _, _ => none
 | k + 1, x8, x9, x11 => if x11 < (x9.length : Int) then (if 0 ≤ x11 then (if (rd x9 x11) < 0 then (some (([] : List Int), ([] : List Int), 22)) else (tidepoleref09_Side.l0 k x8 x9 (wrap64 (x11 + 1)))) else (none)) else (some (x8, x9, 0))
def tidepoleref09_Side.f (k : Nat) (l0 : List (S117)) (l1 : List Int) : Option (List Int × List Int × Int) := (tidepoleref06_Check.f k l0).bind fun t101 => (if t101 = 0 then ((tidepoleref06_Places.f k l0).bind fun t102 => (if (t102.length : Int) = (l1.length : Int) then ((tidepoleref07_Absolute.f k l1).bind fun bt105 => (if bt105.2 = 1 then (some (([] : List Int), ([] : List Int), 28)) else (tidepoleref09_Side.l0 k t102 bt105.1 0))) else (some (([] : List Int), ([] : List Int), 23)))) else (some (([] : List Int), ([] : List Int), t101)))
set_option maxHeartbeats 8000000 in
set_option maxRecDepth 100000 in
theorem tidepoleref09_Side.calls (k : Nat) (A0 : Option Addr) (c0 : Nat) (l0 : List (S117)) (A1 : Option Addr) (c1 : Nat) (l1 : List Int) (r1 : List Int) (r2 : List Int) (r3 : Int) (w : World) (hr0 : Kd.C k117 w A0 l0.length l0) (hc0 : l0.length ≤ c0) (hr1 : Kd.C (Kd.int .i64) w A1 l1.length l1) (hc1 : l1.length ≤ c1) (h : tidepoleref09_Side.f k l0 l1 = some (r1, r2, r3)) :
  Calls Try.prog 18 #[.slice A0 l0.length c0, .slice A1 l1.length c1] w fun e w' => ∃ v0_ v1_ : Value, e = .returned (.tuple #[v0_, v1_, .int .i64 r3]) ∧ Kd.R (Kd.int .i64) 3 w' w.heap.size (fun _ => True) v0_ r1 ∧ Kd.R (Kd.int .i64) 2 w' w.heap.size (fun _ => True) v1_ r2 ∧ Below w.heap.size w w' := by
 have HR0 := Aside0.mk hr0
 have HC0 := Aside0.mk hc0
 clear hr0 hc0
 have HR1 := Aside0.mk hr1
 have HC1 := Aside0.mk hc1
 clear hr1 hc1
 have HB := Aside0.mk (Below.refl w.heap.size w)
 have H : ((tidepoleref06_Check.f k l0).bind fun t101 => (if t101 = 0 then ((tidepoleref06_Places.f k l0).bind fun t102 => (if (t102.length : Int) = (l1.length : Int) then ((tidepoleref07_Absolute.f k l1).bind fun bt105 => (if bt105.2 = 1 then (some (([] : List Int), ([] : List Int), 28)) else (tidepoleref09_Side.l0 k t102 bt105.1 0))) else (some (([] : List Int), ([] : List Int), 23)))) else (some (([] : List Int), ([] : List Int), t101)))) = some (r1, r2, r3) := h
 clear h
 replace H := Option.bind_eq_some_iff.mp H
 obtain ⟨t101, A30, H⟩ := H
 replace H : (if t101 = 0 then ((tidepoleref06_Places.f k l0).bind fun t102 => (if (t102.length : Int) = (l1.length : Int) then ((tidepoleref07_Absolute.f k l1).bind fun bt105 => (if bt105.2 = 1 then (some (([] : List Int), ([] : List Int), 28)) else (tidepoleref09_Side.l0 k t102 bt105.1 0))) else (some (([] : List Int), ([] : List Int), 23)))) else (some (([] : List Int), ([] : List Int), t101))) = some (r1, r2, r3) := H
 have A3 := Aside0.mk A30
 clear A30
 by_cases c4 : t101 = 0
 ·rw [if_pos c4] at H
  have c4b0 : (t101 == 0) = true := beq_iff_eq.mpr c4
  have c4b1 : (t101 != 0) = false := bne_eq_false_iff_eq.mpr c4
  clear c4
  replace H := Option.bind_eq_some_iff.mp H
  obtain ⟨t102, A50, H⟩ := H
  replace H : (if (t102.length : Int) = (l1.length : Int) then ((tidepoleref07_Absolute.f k l1).bind fun bt105 => (if bt105.2 = 1 then (some (([] : List Int), ([] : List Int), 28)) else (tidepoleref09_Side.l0 k t102 bt105.1 0))) else (some (([] : List Int), ([] : List Int), 23))) = some (r1, r2, r3) := H
  have A5 := Aside0.mk A50
  clear A50
  by_cases c6 : (t102.length : Int) = (l1.length : Int)
  ·rw [if_pos c6] at H
   have c6b0 : ((t102.length : Int) == (l1.length : Int)) = true := beq_iff_eq.mpr c6
   have c6b1 : ((t102.length : Int) != (l1.length : Int)) = false := bne_eq_false_iff_eq.mpr c6
   have c6b2 : (t102.length == l1.length) = true := by first | simpa using c6 | (simp at c6 ⊢; omega)
   clear c6
   replace H := Option.bind_eq_some_iff.mp H
   obtain ⟨⟨t105, t106⟩, A70, H⟩ := H
   replace H : (if t106 = 1 then (some (([] : List Int), ([] : List Int), 28)) else (tidepoleref09_Side.l0 k t102 t105 0)) = some (r1, r2, r3) := H
   have A7 := Aside0.mk A70
   clear A70
   by_cases c8 : t106 = 1
   ·rw [if_pos c8] at H
    have c8b0 : (t106 == 1) = true := beq_iff_eq.mpr c8
    have c8b1 : (t106 != 1) = false := bne_eq_false_iff_eq.mpr c8
    clear c8
    simp only [Option.some.injEq, Prod.mk.injEq] at H
    obtain ⟨rfl, rfl, rfl⟩ := H
    go_enter Try.func18, Try.ntmps18
    go_wp2_with (first | ((with_reducible refine gate_callee (f := 69) rfl ?_); refine goesL_ (some 13) rfl rfl Try.func69 (by kernel_rfl) rfl #[.slice A0 l0.length c0] rfl (by (try simp only [List.map_toArray, List.map_cons, List.map_nil]); first | done | rfl | (simp only [List.length_drop, List.length_take]; rfl)) ?_; (with_reducible refine (tidepoleref06_Check.calls k _ _ l0 t101 _ ?side1 ?side2 A3.out).mono ?_); (case side1 => repeat (first | exact HR0.out | (with_reducible refine Kd.C_alloc ?_ _) | (with_reducible refine Kd.C_drewN ?_ _) | (with_reducible refine Kd.C_drew ?_))); (case side2 => exact HC0.out); rintro e w9 ⟨rfl, hb⟩; refine ⟨_, rfl, ?_⟩; have n0_ := Aside0.mk (below_step (by repeat (first | (with_reducible first | exact HB.out | apply below_alloc | apply pw_below_drewN | apply below_drew1) | exact HB.out)) hb); clear HB; have HB := n0_; clear n0_; (try clear hb); (try clear hb2); (try clear hk); (try clear hi); clear A3) | ((with_reducible refine gate_callee (f := 70) rfl ?_); refine goesL_ (some 18) rfl rfl Try.func70 (by kernel_rfl) rfl #[.slice A0 l0.length c0] rfl (by (try simp only [List.map_toArray, List.map_cons, List.map_nil]); first | done | rfl | (simp only [List.length_drop, List.length_take]; rfl)) ?_; (with_reducible refine (tidepoleref06_Places.calls k _ _ l0 t102 _ ?side1 ?side2 A5.out).mono ?_); (case side1 => repeat (first | exact (Kd.C_below HR0.out HB.out) | (with_reducible refine Kd.C_alloc ?_ _) | (with_reducible refine Kd.C_drewN ?_ _) | (with_reducible refine Kd.C_drew ?_))); (case side2 => exact HC0.out); rintro e w10 ⟨v103, rfl, ho0, hb⟩; refine ⟨_, rfl, ?_⟩; have n0_ := Aside0.mk (Kd.R_lower ho0 (below_size (by repeat (first | (with_reducible first | exact HB.out | apply below_alloc | apply pw_below_drewN | apply below_drew1) | exact HB.out)))); have n1_ := Aside0.mk (below_step (by repeat (first | (with_reducible first | exact HB.out | apply below_alloc | apply pw_below_drewN | apply below_drew1) | exact HB.out)) hb); clear HB; have HO104 := n0_; have HB := n1_; clear n0_ n1_; (try clear hb); (try clear hb2); (try clear hk); (try clear hi); (try clear ho0); clear A5; obtain ⟨Ao11, co11, eo11⟩ := Kd.R_slice HO104.out; subst eo11) | ((with_reducible refine gate_callee (f := 44) rfl ?_); refine goesL_ (some 26) rfl rfl Try.func44 (by kernel_rfl) rfl #[.slice A1 l1.length c1] rfl (by (try simp only [List.map_toArray, List.map_cons, List.map_nil]); first | done | rfl | (simp only [List.length_drop, List.length_take]; rfl)) ?_; (with_reducible refine (tidepoleref07_Absolute.calls k _ _ l1 t105 t106 _ ?side1 ?side2 A7.out).mono ?_); (case side1 => repeat (first | exact (Kd.C_below HR1.out HB.out) | (with_reducible refine Kd.C_alloc ?_ _) | (with_reducible refine Kd.C_drewN ?_ _) | (with_reducible refine Kd.C_drew ?_))); (case side2 => exact HC1.out); rintro e w12 ⟨v107, rfl, ho0, hb⟩; refine ⟨_, rfl, ?_⟩; have n0_ := Aside0.mk (Kd.R_below (by (with_reducible repeat (first | apply Kd.R_alloc | apply Kd.R_drewN | apply Kd.R_drew)); exact HO104.out) hb); have n1_ := Aside0.mk (Kd.R_lower ho0 (below_size (by repeat (first | (with_reducible first | exact HB.out | apply below_alloc | apply pw_below_drewN | apply below_drew1) | exact HB.out)))); have n2_ := Aside0.mk (below_step (by repeat (first | (with_reducible first | exact HB.out | apply below_alloc | apply pw_below_drewN | apply below_drew1) | exact HB.out)) hb); clear HO104; clear HB; have HO104 := n0_; have HO108 := n1_; have HB := n2_; clear n0_ n1_ n2_; (try clear hb); (try clear hb2); (try clear hk); (try clear hi); (try clear ho0); clear A7))
    go_ret3
    exact ⟨_, _, by first | rfl | (simp [errW_none, errW_some] <;> rfl) | (simp [*, errW_none, errW_some] <;> rfl), by first | exact Kd.R_nil _ _ _ _ _ | exact Kd.N_nil _ _ _ _ _ | exact Kd.V_nil _ _ _ _ _ | exact Kd.Q_nil _ _ _ _ _ | exact Kd.S_nil _ _ _ _ _, by first | exact Kd.R_nil _ _ _ _ _ | exact Kd.N_nil _ _ _ _ _ | exact Kd.V_nil _ _ _ _ _ | exact Kd.Q_nil _ _ _ _ _ | exact Kd.S_nil _ _ _ _ _, by repeat (first | (with_reducible first | exact HB.out | apply below_alloc | apply pw_below_drewN | apply below_drew1) | exact HB.out)⟩
   ·rw [if_neg c8] at H
    have c8b0 : (t106 == 1) = false := beq_eq_false_iff_ne.mpr c8
    have c8b1 : (t106 != 1) = true := bne_iff_ne.mpr c8
    have H' := Aside0.mk H
    clear H
    go_enter Try.func18, Try.ntmps18
    go_wp2_with (first | ((with_reducible refine gate_callee (f := 69) rfl ?_); refine goesL_ (some 13) rfl rfl Try.func69 (by kernel_rfl) rfl #[.slice A0 l0.length c0] rfl (by (try simp only [List.map_toArray, List.map_cons, List.map_nil]); first | done | rfl | (simp only [List.length_drop, List.length_take]; rfl)) ?_; (with_reducible refine (tidepoleref06_Check.calls k _ _ l0 t101 _ ?side1 ?side2 A3.out).mono ?_); (case side1 => repeat (first | exact HR0.out | (with_reducible refine Kd.C_alloc ?_ _) | (with_reducible refine Kd.C_drewN ?_ _) | (with_reducible refine Kd.C_drew ?_))); (case side2 => exact HC0.out); rintro e w13 ⟨rfl, hb⟩; refine ⟨_, rfl, ?_⟩; have n0_ := Aside0.mk (below_step (by repeat (first | (with_reducible first | exact HB.out | apply below_alloc | apply pw_below_drewN | apply below_drew1) | exact HB.out)) hb); clear HB; have HB := n0_; clear n0_; (try clear hb); (try clear hb2); (try clear hk); (try clear hi); clear A3) | ((with_reducible refine gate_callee (f := 70) rfl ?_); refine goesL_ (some 18) rfl rfl Try.func70 (by kernel_rfl) rfl #[.slice A0 l0.length c0] rfl (by (try simp only [List.map_toArray, List.map_cons, List.map_nil]); first | done | rfl | (simp only [List.length_drop, List.length_take]; rfl)) ?_; (with_reducible refine (tidepoleref06_Places.calls k _ _ l0 t102 _ ?side1 ?side2 A5.out).mono ?_); (case side1 => repeat (first | exact (Kd.C_below HR0.out HB.out) | (with_reducible refine Kd.C_alloc ?_ _) | (with_reducible refine Kd.C_drewN ?_ _) | (with_reducible refine Kd.C_drew ?_))); (case side2 => exact HC0.out); rintro e w14 ⟨v103, rfl, ho0, hb⟩; refine ⟨_, rfl, ?_⟩; have n0_ := Aside0.mk (Kd.R_lower ho0 (below_size (by repeat (first | (with_reducible first | exact HB.out | apply below_alloc | apply pw_below_drewN | apply below_drew1) | exact HB.out)))); have n1_ := Aside0.mk (below_step (by repeat (first | (with_reducible first | exact HB.out | apply below_alloc | apply pw_below_drewN | apply below_drew1) | exact HB.out)) hb); clear HB; have HO104 := n0_; have HB := n1_; clear n0_ n1_; (try clear hb); (try clear hb2); (try clear hk); (try clear hi); (try clear ho0); clear A5; obtain ⟨Ao15, co15, eo15⟩ := Kd.R_slice HO104.out; subst eo15) | ((with_reducible refine gate_callee (f := 44) rfl ?_); refine goesL_ (some 26) rfl rfl Try.func44 (by kernel_rfl) rfl #[.slice A1 l1.length c1] rfl (by (try simp only [List.map_toArray, List.map_cons, List.map_nil]); first | done | rfl | (simp only [List.length_drop, List.length_take]; rfl)) ?_; (with_reducible refine (tidepoleref07_Absolute.calls k _ _ l1 t105 t106 _ ?side1 ?side2 A7.out).mono ?_); (case side1 => repeat (first | exact (Kd.C_below HR1.out HB.out) | (with_reducible refine Kd.C_alloc ?_ _) | (with_reducible refine Kd.C_drewN ?_ _) | (with_reducible refine Kd.C_drew ?_))); (case side2 => exact HC1.out); rintro e w16 ⟨v107, rfl, ho0, hb⟩; refine ⟨_, rfl, ?_⟩; have n0_ := Aside0.mk (Kd.R_below (by (with_reducible repeat (first | apply Kd.R_alloc | apply Kd.R_drewN | apply Kd.R_drew)); exact HO104.out) hb); have n1_ := Aside0.mk (Kd.R_lower ho0 (below_size (by repeat (first | (with_reducible first | exact HB.out | apply below_alloc | apply pw_below_drewN | apply below_drew1) | exact HB.out)))); have n2_ := Aside0.mk (below_step (by repeat (first | (with_reducible first | exact HB.out | apply below_alloc | apply pw_below_drewN | apply below_drew1) | exact HB.out)) hb); clear HO104; clear HB; have HO104 := n0_; have HO108 := n1_; have HB := n2_; clear n0_ n1_ n2_; (try clear hb); (try clear hb2); (try clear hk); (try clear hi); (try clear ho0); clear A7))
    go_loopg [11] k (fun kq v11 w' => ∃ (x11_1 : Int), v11 = .int .i64 x11_1 ∧ Aside0 (tidepoleref09_Side.l0 kq t102 t105 x11_1 = some (r1, r2, r3)) ∧ Aside0 (kq ≤ k) ∧ Aside0 (Kd.R (Kd.int .i64) 3 w' w.heap.size (fun _ => True) (.slice Ao15 t102.length co15) t102) ∧ Aside0 (Kd.R (Kd.int .i64) 2 w' w.heap.size (fun _ => True) v107 t105) ∧ Aside0 (Below w.heap.size w w'))
    case atStart => exact ⟨(0), (by first | rfl | (simp; done) | (simp [*]; done)), H', ⟨Nat.le_refl _⟩, ⟨by (with_reducible repeat (first | apply Kd.R_alloc | apply Kd.R_drewN | apply Kd.R_drew)); exact HO104.out⟩, ⟨by (with_reducible repeat (first | apply Kd.R_alloc | apply Kd.R_drewN | apply Kd.R_drew)); exact HO108.out⟩, ⟨by repeat (first | (with_reducible first | exact HB.out | apply below_alloc | apply pw_below_drewN | apply below_drew1) | exact HB.out)⟩⟩
    case round =>
     clear H'
     try clear c1
     try clear p2
     try clear c4
     try clear c4b0
     try clear c4b1
     try clear c6
     try clear c6b0
     try clear c6b1
     try clear c6b2
     try clear c7
     try clear c8
     try clear c8b0
     try clear c8b1
     obtain ⟨x11_1, rfl, HA, HK1, HO_8, HO_9, HB⟩ := hrel
     cases gk with
     | zero => exact absurd HA.out (by simp [tidepoleref09_Side.l0])
     | succ k1 =>
      have H := HA.out
      clear HA
      simp only [tidepoleref09_Side.l0] at H
      by_cases c17 : x11_1 < (t105.length : Int)
      ·rw [if_pos c17] at H
       have c17b0 : decide (x11_1 < (t105.length : Int)) = true := decide_eq_true c17
       clear c17
       by_cases c18 : 0 ≤ x11_1
       ·rw [if_pos c18] at H
        have c18b0 : decide (0 ≤ x11_1) = true := decide_eq_true c18
        clear c18
        by_cases c19 : (rd t105 x11_1) < 0
        ·rw [if_pos c19] at H
         have c19b0 : decide ((rd t105 x11_1) < 0) = true := decide_eq_true c19
         clear c19
         simp only [Option.some.injEq, Prod.mk.injEq] at H
         obtain ⟨rfl, rfl, rfl⟩ := H
         obtain ⟨Ao20, co20, eo20⟩ := Kd.R_slice HO_9.out
         subst eo20
         have p109 : 0 ≤ (x11_1 : Int) := of_decide_eq_true (by first | (with_reducible assumption) | assumption)
         have q109 : x11_1 < (t105.length : Int) := of_decide_eq_true (by first | (with_reducible assumption) | assumption)
         obtain ⟨ad109, e109, hx109_0⟩ := Kd.at_int (Kd.R_reads' HO_9.out).2.2 x11_1 p109 q109
         cases e109
         replace p109 := eq_true p109
         replace q109 := eq_true q109
         go_wp2
         go_ret3
         exact ⟨_, _, by first | rfl | (simp [errW_none, errW_some] <;> rfl) | (simp [*, errW_none, errW_some] <;> rfl), by first | exact Kd.R_nil _ _ _ _ _ | exact Kd.N_nil _ _ _ _ _ | exact Kd.V_nil _ _ _ _ _ | exact Kd.Q_nil _ _ _ _ _ | exact Kd.S_nil _ _ _ _ _, by first | exact Kd.R_nil _ _ _ _ _ | exact Kd.N_nil _ _ _ _ _ | exact Kd.V_nil _ _ _ _ _ | exact Kd.Q_nil _ _ _ _ _ | exact Kd.S_nil _ _ _ _ _, by repeat (first | (with_reducible first | exact HB.out | apply below_alloc | apply pw_below_drewN | apply below_drew1) | exact HB.out)⟩
        ·rw [if_neg c19] at H
         have c19b0 : decide ((rd t105 x11_1) < 0) = false := decide_eq_false c19
         clear c19
         have H' := Aside0.mk H
         clear H
         obtain ⟨Ao21, co21, eo21⟩ := Kd.R_slice HO_9.out
         subst eo21
         have p109 : 0 ≤ (x11_1 : Int) := of_decide_eq_true (by first | (with_reducible assumption) | assumption)
         have q109 : x11_1 < (t105.length : Int) := of_decide_eq_true (by first | (with_reducible assumption) | assumption)
         obtain ⟨ad109, e109, hx109_0⟩ := Kd.at_int (Kd.R_reads' HO_9.out).2.2 x11_1 p109 q109
         cases e109
         replace p109 := eq_true p109
         replace q109 := eq_true q109
         go_wp2
         go_roundg k1
         case measure => have := HK1.out; omega
         case rel => exact ⟨(wrap64 (x11_1 + 1)), (by first | rfl | (simp; done) | (simp [*]; done)), H', ⟨by have := HK1.out; omega⟩, ⟨by (with_reducible repeat (first | apply Kd.R_alloc | apply Kd.R_drewN | apply Kd.R_drew)); exact HO_8.out⟩, ⟨by (with_reducible repeat (first | apply Kd.R_alloc | apply Kd.R_drewN | apply Kd.R_drew)); exact HO_9.out⟩, ⟨by repeat (first | (with_reducible first | exact HB.out | apply below_alloc | apply pw_below_drewN | apply below_drew1) | exact HB.out)⟩⟩
       ·rw [if_neg c18] at H
        exact absurd H (by simp)
      ·rw [if_neg c17] at H
       have c17b0 : decide (x11_1 < (t105.length : Int)) = false := decide_eq_false c17
       clear c17
       simp only [Option.some.injEq, Prod.mk.injEq] at H
       obtain ⟨rfl, rfl, rfl⟩ := H
       obtain ⟨Ao22, co22, eo22⟩ := Kd.R_slice HO_9.out
       subst eo22
       go_wp2
       go_ret3
       exact ⟨_, _, by first | rfl | (simp [errW_none, errW_some] <;> rfl) | (simp [*, errW_none, errW_some] <;> rfl), by (with_reducible repeat (first | apply Kd.R_alloc | apply Kd.R_drewN | apply Kd.R_drew)); exact HO_8.out, by (with_reducible repeat (first | apply Kd.R_alloc | apply Kd.R_drewN | apply Kd.R_drew)); exact HO_9.out, by repeat (first | (with_reducible first | exact HB.out | apply below_alloc | apply pw_below_drewN | apply below_drew1) | exact HB.out)⟩
  ·rw [if_neg c6] at H
   have c6b0 : ((t102.length : Int) == (l1.length : Int)) = false := beq_eq_false_iff_ne.mpr c6
   have c6b1 : ((t102.length : Int) != (l1.length : Int)) = true := bne_iff_ne.mpr c6
   have c6b2 : (t102.length == l1.length) = false := by first | simpa using c6 | (simp at c6 ⊢; omega)
   simp only [Option.some.injEq, Prod.mk.injEq] at H
   obtain ⟨rfl, rfl, rfl⟩ := H
   go_enter Try.func18, Try.ntmps18
   go_wp2_with (first | ((with_reducible refine gate_callee (f := 69) rfl ?_); refine goesL_ (some 13) rfl rfl Try.func69 (by kernel_rfl) rfl #[.slice A0 l0.length c0] rfl (by (try simp only [List.map_toArray, List.map_cons, List.map_nil]); first | done | rfl | (simp only [List.length_drop, List.length_take]; rfl)) ?_; (with_reducible refine (tidepoleref06_Check.calls k _ _ l0 t101 _ ?side1 ?side2 A3.out).mono ?_); (case side1 => repeat (first | exact HR0.out | (with_reducible refine Kd.C_alloc ?_ _) | (with_reducible refine Kd.C_drewN ?_ _) | (with_reducible refine Kd.C_drew ?_))); (case side2 => exact HC0.out); rintro e w23 ⟨rfl, hb⟩; refine ⟨_, rfl, ?_⟩; have n0_ := Aside0.mk (below_step (by repeat (first | (with_reducible first | exact HB.out | apply below_alloc | apply pw_below_drewN | apply below_drew1) | exact HB.out)) hb); clear HB; have HB := n0_; clear n0_; (try clear hb); (try clear hb2); (try clear hk); (try clear hi); clear A3) | ((with_reducible refine gate_callee (f := 70) rfl ?_); refine goesL_ (some 18) rfl rfl Try.func70 (by kernel_rfl) rfl #[.slice A0 l0.length c0] rfl (by (try simp only [List.map_toArray, List.map_cons, List.map_nil]); first | done | rfl | (simp only [List.length_drop, List.length_take]; rfl)) ?_; (with_reducible refine (tidepoleref06_Places.calls k _ _ l0 t102 _ ?side1 ?side2 A5.out).mono ?_); (case side1 => repeat (first | exact (Kd.C_below HR0.out HB.out) | (with_reducible refine Kd.C_alloc ?_ _) | (with_reducible refine Kd.C_drewN ?_ _) | (with_reducible refine Kd.C_drew ?_))); (case side2 => exact HC0.out); rintro e w24 ⟨v103, rfl, ho0, hb⟩; refine ⟨_, rfl, ?_⟩; have n0_ := Aside0.mk (Kd.R_lower ho0 (below_size (by repeat (first | (with_reducible first | exact HB.out | apply below_alloc | apply pw_below_drewN | apply below_drew1) | exact HB.out)))); have n1_ := Aside0.mk (below_step (by repeat (first | (with_reducible first | exact HB.out | apply below_alloc | apply pw_below_drewN | apply below_drew1) | exact HB.out)) hb); clear HB; have HO104 := n0_; have HB := n1_; clear n0_ n1_; (try clear hb); (try clear hb2); (try clear hk); (try clear hi); (try clear ho0); clear A5; obtain ⟨Ao25, co25, eo25⟩ := Kd.R_slice HO104.out; subst eo25))
   go_ret3
   exact ⟨_, _, by first | rfl | (simp [errW_none, errW_some] <;> rfl) | (simp [*, errW_none, errW_some] <;> rfl), by first | exact Kd.R_nil _ _ _ _ _ | exact Kd.N_nil _ _ _ _ _ | exact Kd.V_nil _ _ _ _ _ | exact Kd.Q_nil _ _ _ _ _ | exact Kd.S_nil _ _ _ _ _, by first | exact Kd.R_nil _ _ _ _ _ | exact Kd.N_nil _ _ _ _ _ | exact Kd.V_nil _ _ _ _ _ | exact Kd.Q_nil _ _ _ _ _ | exact Kd.S_nil _ _ _ _ _, by repeat (first | (with_reducible first | exact HB.out | apply below_alloc | apply pw_below_drewN | apply below_drew1) | exact HB.out)⟩
 ·rw [if_neg c4] at H
  have c4b0 : (t101 == 0) = false := beq_eq_false_iff_ne.mpr c4
  have c4b1 : (t101 != 0) = true := bne_iff_ne.mpr c4
  simp only [Option.some.injEq, Prod.mk.injEq] at H
  obtain ⟨rfl, rfl, rfl⟩ := H
  go_enter Try.func18, Try.ntmps18
  go_wp2_with (first | ((with_reducible refine gate_callee (f := 69) rfl ?_); refine goesL_ (some 13) rfl rfl Try.func69 (by kernel_rfl) rfl #[.slice A0 l0.length c0] rfl (by (try simp only [List.map_toArray, List.map_cons, List.map_nil]); first | done | rfl | (simp only [List.length_drop, List.length_take]; rfl)) ?_; (with_reducible refine (tidepoleref06_Check.calls k _ _ l0 t101 _ ?side1 ?side2 A3.out).mono ?_); (case side1 => repeat (first | exact HR0.out | (with_reducible refine Kd.C_alloc ?_ _) | (with_reducible refine Kd.C_drewN ?_ _) | (with_reducible refine Kd.C_drew ?_))); (case side2 => exact HC0.out); rintro e w26 ⟨rfl, hb⟩; refine ⟨_, rfl, ?_⟩; have n0_ := Aside0.mk (below_step (by repeat (first | (with_reducible first | exact HB.out | apply below_alloc | apply pw_below_drewN | apply below_drew1) | exact HB.out)) hb); clear HB; have HB := n0_; clear n0_; (try clear hb); (try clear hb2); (try clear hk); (try clear hi); clear A3))
  go_ret3
  exact ⟨_, _, by first | rfl | (simp [errW_none, errW_some] <;> rfl) | (simp [*, errW_none, errW_some] <;> rfl), by first | exact Kd.R_nil _ _ _ _ _ | exact Kd.N_nil _ _ _ _ _ | exact Kd.V_nil _ _ _ _ _ | exact Kd.Q_nil _ _ _ _ _ | exact Kd.S_nil _ _ _ _ _, by first | exact Kd.R_nil _ _ _ _ _ | exact Kd.N_nil _ _ _ _ _ | exact Kd.V_nil _ _ _ _ _ | exact Kd.Q_nil _ _ _ _ _ | exact Kd.S_nil _ _ _ _ _, by repeat (first | (with_reducible first | exact HB.out | apply below_alloc | apply pw_below_drewN | apply below_drew1) | exact HB.out)⟩
def tidepoleref09_Head.j0 : Nat → Int → Bool → Option (Int)
 | 0, _, _ => none
 | k + 1, x1, x10 => if x10 = true then (some 21) else (if x1 ≥ 9218868437227405312 then (some 11) else (some 0))
def tidepoleref09_Head.f (k : Nat) (a0 : Int) (a1 : Int) : Option (Int) := if a0 < (-4) then (tidepoleref09_Head.j0 k a1 true) else (tidepoleref09_Head.j0 k a1 (decide (a0 > 8)))
set_option maxHeartbeats 8000000 in
set_option maxRecDepth 100000 in
theorem tidepoleref09_Head.calls (k : Nat) (a0 : Int) (a1 : Int) (r : Int) (w : World) (h : tidepoleref09_Head.f k a0 a1 = some r) :
  Calls Try.prog 67 #[.int .i64 a0, .int .u64 a1] w fun e w' => e = .returned (.int .i64 r) ∧ Drawn0 w w' := by
 have H : (if a0 < (-4) then (tidepoleref09_Head.j0 k a1 true) else (tidepoleref09_Head.j0 k a1 (decide (a0 > 8)))) = some r := h
 clear h
 have HC3 := Aside0.mk H
 clear H
 go_enter Try.func67, Try.ntmps67
 go_upto_region 1 with (fail)
 go_cut [10] (fun v10 wc => ∃ (kq : Nat) (x10_2 : Bool), v10 = .bool x10_2 ∧ Aside0 (tidepoleref09_Head.j0 kq a1 x10_2 = some r) ∧ Aside0 (kq ≤ k) ∧ Drawn0 w wc)
 case first =>
  have H := HC3.out
  clear HC3
  by_cases c4 : a0 < (-4)
  ·rw [if_pos c4] at H
   have c4b0 : decide (a0 < (-4)) = true := decide_eq_true c4
   clear c4
   (first | rw [c4b0] | (simp only [i64_w, i32_w]; rw [c4b0]) | skip)
   have H' := Aside0.mk H
   clear H
   go_wp2
   go_meet
   case rel => exact ⟨_, (true), (by first | rfl | (simp; done) | (simp [*]; done)), H', ⟨by first | omega | exact Nat.le_refl _⟩, by repeat (first | exact Drawn0.refl _ | apply Drawn0.step)⟩
  ·rw [if_neg c4] at H
   have c4b0 : decide (a0 < (-4)) = false := decide_eq_false c4
   clear c4
   (first | rw [c4b0] | (simp only [i64_w, i32_w]; rw [c4b0]) | skip)
   have H' := Aside0.mk H
   clear H
   go_wp2
   go_meet
   case rel => exact ⟨_, (decide (a0 > 8)), (by first | rfl | (simp; done) | (simp [*]; done)), H', ⟨by first | omega | exact Nat.le_refl _⟩, by repeat (first | exact Drawn0.refl _ | apply Drawn0.step)⟩
 case rest =>
  clear HC3
  try clear p2
  try clear c4
  try clear c4b0
  obtain ⟨kq, x10_2, rfl, HA, HJ2, ⟨mc2, rfl⟩⟩ := hcut
  cases kq with
  | zero => exact absurd HA.out (by simp [tidepoleref09_Head.j0])
  | succ kj2 =>
   have H := HA.out
   clear HA
   simp only [tidepoleref09_Head.j0] at H
   by_cases c5 : x10_2 = true
   ·subst c5
    have H1 : (some 21) = some r := by rw [if_pos rfl] at H; exact H
    clear H
    have H := H1
    clear H1
    obtain rfl := Option.some.inj H
    go_wp2
    go_ret
    exact ⟨by first | rfl | (simp; done) | (simp [*]; done), by repeat (first | exact Drawn0.refl _ | apply Drawn0.step)⟩
   ·replace c5 := Bool.eq_false_iff.mpr c5
    subst c5
    have H1 : (if a1 ≥ 9218868437227405312 then (some 11) else (some 0)) = some r := by rw [if_neg (show ¬ (false = true) by decide)] at H; exact H
    clear H
    have H := H1
    clear H1
    by_cases c6 : a1 ≥ 9218868437227405312
    ·rw [if_pos c6] at H
     have c6b0 : decide (9218868437227405312 ≤ a1) = true := decide_eq_true c6
     clear c6
     obtain rfl := Option.some.inj H
     go_wp2
     go_ret
     exact ⟨by first | rfl | (simp; done) | (simp [*]; done), by repeat (first | exact Drawn0.refl _ | apply Drawn0.step)⟩
    ·rw [if_neg c6] at H
     have c6b0 : decide (9218868437227405312 ≤ a1) = false := decide_eq_false c6
     clear c6
     obtain rfl := Option.some.inj H
     go_wp2
     go_ret
     exact ⟨by first | rfl | (simp; done) | (simp [*]; done), by repeat (first | exact Drawn0.refl _ | apply Drawn0.step)⟩
def tidepoleref09_NaN.f (a0 : Int) : Option (Bool) := if a0 ≥ 9223372036854775808 then (some (decide ((IntKind.u64.wrap (a0 - 9223372036854775808)) > 9218868437227405312))) else (some (decide (a0 > 9218868437227405312)))
set_option maxHeartbeats 8000000 in
set_option maxRecDepth 100000 in
theorem tidepoleref09_NaN.calls (a0 : Int) (r : Bool) (w : World) (h : tidepoleref09_NaN.f a0 = some r) :
  Calls Try.prog 106 #[.int .u64 a0] w fun e w' => e = .returned (.bool r) ∧ Drawn0 w w' := by
 have H : (if a0 ≥ 9223372036854775808 then (some (decide ((IntKind.u64.wrap (a0 - 9223372036854775808)) > 9218868437227405312))) else (some (decide (a0 > 9218868437227405312)))) = some r := h
 clear h
 by_cases c2 : a0 ≥ 9223372036854775808
 ·rw [if_pos c2] at H
  have c2b0 : decide (9223372036854775808 ≤ a0) = true := decide_eq_true c2
  clear c2
  obtain rfl := Option.some.inj H
  go_enter Try.func106, Try.ntmps106
  go_wp2
  go_ret
  exact ⟨by first | rfl | (simp; done) | (simp [*]; done), by repeat (first | exact Drawn0.refl _ | apply Drawn0.step)⟩
 ·rw [if_neg c2] at H
  have c2b0 : decide (9223372036854775808 ≤ a0) = false := decide_eq_false c2
  clear c2
  obtain rfl := Option.some.inj H
  go_enter Try.func106, Try.ntmps106
  go_wp2
  go_ret
  exact ⟨by first | rfl | (simp; done) | (simp [*]; done), by repeat (first | exact Drawn0.refl _ | apply Drawn0.step)⟩
mutual
def tidepoleref09_Fits.l0 : Nat → Int → List Int → List Int → Int → Int → Option (Int)
 | 0, _, _, _, _, _ => none
 | k + 1, x2, x3, x4, x11, x12 => if x12 < 2 then (if x12 = 1 then (tidepoleref09_Fits.j1 k x2 x3 x4 x11 x12 x4) else (tidepoleref09_Fits.j1 k x2 x3 x4 x11 x12 x3)) else (if x11 > 0 then ((tidepoleref09_NaN.f x2).bind fun t101 => (if t101 = true then (some 0) else (some 22))) else (some 0))
def tidepoleref09_Fits.j1 : Nat → Int → List Int → List Int → Int → Int → List Int → Option (Int)
 | 0, _, _, _, _, _, _ => none
 | k + 1, x2, x3, x4, x11, x12, x13 => tidepoleref09_Fits.l1 k x2 x3 x4 x11 x12 x13 0
def tidepoleref09_Fits.l1 : Nat → Int → List Int → List Int → Int → Int → List Int → Int → Option (Int)
 | 0, _, _, _, _, _, _, _ => none
 | k + 1, x2, x3, x4, x11, x12, x13, x14 => if x14 < (x13.length : Int) then (if 0 ≤ x14 then (if (rd x13 x14) < 0 then (some 22) else (if (IntKind.u64.wrap (rd x13 x14)) > x11 then (some 22) else (tidepoleref09_Fits.l1 k x2 x3 x4 (IntKind.u64.wrap (x11 - (IntKind.u64.wrap (rd x13 x14)))) x12 x13 (wrap64 (x14 + 1))))) else (none)) else (tidepoleref09_Fits.l0 k x2 x3 x4 x11 (wrap64 (x12 + 1)))
end
def tidepoleref09_Fits.f (k : Nat) (a0 : Int) (a1 : Int) (a2 : Int) (l3 : List Int) (l4 : List Int) : Option (Int) := if a0 > a1 then (some 22) else (tidepoleref09_Fits.l0 k a2 l3 l4 (IntKind.u64.wrap (a1 - a0)) 0)
set_option maxHeartbeats 8000000 in
set_option maxRecDepth 100000 in
theorem tidepoleref09_Fits.calls (k : Nat) (a0 : Int) (a1 : Int) (a2 : Int) (P3_ : Nat → Prop) (A3 : Option Addr) (c3 : Nat) (l3 : List Int) (P4_ : Nat → Prop) (A4 : Option Addr) (c4 : Nat) (l4 : List Int) (r : Int) (w : World) (hs3 : Kd.V (Kd.int .i64) 2 w w.heap.size (fun k_ => P3_ k_) (.slice A3 l3.length c3) l3) (hs4 : Kd.V (Kd.int .i64) 2 w w.heap.size (fun k_ => P4_ k_) (.slice A4 l4.length c4) l4) (h : tidepoleref09_Fits.f k a0 a1 a2 l3 l4 = some r) :
  Calls Try.prog 68 #[.int .u64 a0, .int .u64 a1, .int .u64 a2, .slice A3 l3.length c3, .slice A4 l4.length c4] w fun e w' => e = .returned (.int .i64 r) ∧ Below w.heap.size w w' := by
 have HO3 := Aside0.mk (show Kd.V (Kd.int .i64) 2 w w.heap.size (fun k_ => ((P3_ k_ ∨ P4_ k_) ∨ w.heap.size ≤ k_)) (.slice A3 l3.length c3) l3 from Kd.V_mono hs3 (fun k_ hk => .inl (.inl hk)))
 have HO4 := Aside0.mk (show Kd.V (Kd.int .i64) 2 w w.heap.size (fun k_ => ((P3_ k_ ∨ P4_ k_) ∨ w.heap.size ≤ k_)) (.slice A4 l4.length c4) l4 from Kd.V_mono hs4 (fun k_ hk => .inl (.inr hk)))
 have HB := Aside0.mk (Below.refl w.heap.size w)
 have H : (if a0 > a1 then (some 22) else (tidepoleref09_Fits.l0 k a2 l3 l4 (IntKind.u64.wrap (a1 - a0)) 0)) = some r := h
 clear h
 by_cases c6 : a0 > a1
 ·rw [if_pos c6] at H
  have c6b0 : decide (a1 < a0) = true := decide_eq_true c6
  clear c6
  obtain rfl := Option.some.inj H
  go_enter Try.func68, Try.ntmps68
  go_wp2
  go_ret
  exact ⟨by first | rfl | (simp [errW_none, errW_some] <;> rfl) | (simp [*, errW_none, errW_some] <;> rfl), by repeat (first | (with_reducible first | exact HB.out | apply below_alloc | apply pw_below_drewN | apply below_drew1) | exact HB.out)⟩
 ·rw [if_neg c6] at H
  have c6b0 : decide (a1 < a0) = false := decide_eq_false c6
  clear c6
  have H' := Aside0.mk H
  clear H
  go_enter Try.func68, Try.ntmps68
  go_wp2
  go_loopg [11, 12] k (fun kq v11 v12 w' => ∃ (x11_1 : Int) (x12_1 : Int), v11 = .int .u64 x11_1 ∧ v12 = .int .i64 x12_1 ∧ Aside0 (tidepoleref09_Fits.l0 kq a2 l3 l4 x11_1 x12_1 = some r) ∧ Aside0 (kq ≤ k) ∧ Aside0 (Kd.V (Kd.int .i64) 2 w' w.heap.size (fun k_ => ((P3_ k_ ∨ P4_ k_) ∨ w.heap.size ≤ k_)) (.slice A3 l3.length c3) l3) ∧ Aside0 (Kd.V (Kd.int .i64) 2 w' w.heap.size (fun k_ => ((P3_ k_ ∨ P4_ k_) ∨ w.heap.size ≤ k_)) (.slice A4 l4.length c4) l4) ∧ Aside0 (Below w.heap.size w w'))
  case atStart => exact ⟨(IntKind.u64.wrap (a1 - a0)), (0), (by first | rfl | (simp; done) | (simp [*]; done)), (by first | rfl | (simp; done) | (simp [*]; done)), H', ⟨Nat.le_refl _⟩, ⟨by (with_reducible repeat (first | apply Kd.V_alloc | apply Kd.V_drewN | apply Kd.V_drew)); exact HO3.out⟩, ⟨by (with_reducible repeat (first | apply Kd.V_alloc | apply Kd.V_drewN | apply Kd.V_drew)); exact HO4.out⟩, ⟨by repeat (first | (with_reducible first | exact HB.out | apply below_alloc | apply pw_below_drewN | apply below_drew1) | exact HB.out)⟩⟩
  case round =>
   clear H'
   try clear p2
   try clear c3
   try clear c4
   try clear c6
   try clear c6b0
   obtain ⟨x11_1, x12_1, rfl, rfl, HA, HK1, HO_3, HO_4, HB⟩ := hrel
   cases gk with
   | zero => exact absurd HA.out (by simp [tidepoleref09_Fits.l0])
   | succ k1 =>
    have H := HA.out
    clear HA
    simp only [tidepoleref09_Fits.l0] at H
    by_cases c7 : x12_1 < 2
    ·rw [if_pos c7] at H
     have c7b0 : decide (x12_1 < 2) = true := decide_eq_true c7
     clear c7
     have HC8 := Aside0.mk H
     clear H
     go_upto_if 27 with (fail)
     go_cut [13] (fun v13 wc => ∃ (kq : Nat) (x13_7 : List Int), Aside0 (tidepoleref09_Fits.j1 kq a2 l3 l4 x11_1 x12_1 x13_7 = some r) ∧ Aside0 (kq ≤ k1) ∧ Aside0 (Kd.V (Kd.int .i64) 2 wc w.heap.size (fun k_ => ((P3_ k_ ∨ P4_ k_) ∨ w.heap.size ≤ k_)) (.slice A3 l3.length c3) l3) ∧ Aside0 (Kd.V (Kd.int .i64) 2 wc w.heap.size (fun k_ => ((P3_ k_ ∨ P4_ k_) ∨ w.heap.size ≤ k_)) (.slice A4 l4.length c4) l4) ∧ Aside0 (Kd.V (Kd.int .i64) 2 wc w.heap.size (fun k_ => ((P3_ k_ ∨ P4_ k_) ∨ w.heap.size ≤ k_)) v13 x13_7) ∧ Aside0 (Below w.heap.size w wc))
     case first =>
      have H := HC8.out
      clear HC8
      by_cases c9 : x12_1 = 1
      ·rw [if_pos c9] at H
       have c9b0 : (x12_1 == 1) = true := beq_iff_eq.mpr c9
       have c9b1 : (x12_1 != 1) = false := bne_eq_false_iff_eq.mpr c9
       clear c9
       (first | rw [c9b0] | (simp only [i64_w, i32_w]; rw [c9b0]) | skip)
       have H' := Aside0.mk H
       clear H
       go_wp2
       go_meet
       case rel => exact ⟨_, (l4), H', ⟨by have := HK1.out; first | omega | exact Nat.le_refl _⟩, ⟨by (with_reducible repeat (first | apply Kd.V_alloc | apply Kd.V_drewN | apply Kd.V_drew)); exact HO_3.out⟩, ⟨by (with_reducible repeat (first | apply Kd.V_alloc | apply Kd.V_drewN | apply Kd.V_drew)); exact HO_4.out⟩, ⟨by (with_reducible repeat (first | apply Kd.V_alloc | apply Kd.V_drewN | apply Kd.V_drew)); exact HO_4.out⟩, ⟨by repeat (first | (with_reducible first | exact HB.out | apply below_alloc | apply pw_below_drewN | apply below_drew1) | exact HB.out)⟩⟩
      ·rw [if_neg c9] at H
       have c9b0 : (x12_1 == 1) = false := beq_eq_false_iff_ne.mpr c9
       have c9b1 : (x12_1 != 1) = true := bne_iff_ne.mpr c9
       (first | rw [c9b0] | (simp only [i64_w, i32_w]; rw [c9b0]) | skip)
       have H' := Aside0.mk H
       clear H
       go_wp2
       go_meet
       case rel => exact ⟨_, (l3), H', ⟨by have := HK1.out; first | omega | exact Nat.le_refl _⟩, ⟨by (with_reducible repeat (first | apply Kd.V_alloc | apply Kd.V_drewN | apply Kd.V_drew)); exact HO_3.out⟩, ⟨by (with_reducible repeat (first | apply Kd.V_alloc | apply Kd.V_drewN | apply Kd.V_drew)); exact HO_4.out⟩, ⟨by (with_reducible repeat (first | apply Kd.V_alloc | apply Kd.V_drewN | apply Kd.V_drew)); exact HO_3.out⟩, ⟨by repeat (first | (with_reducible first | exact HB.out | apply below_alloc | apply pw_below_drewN | apply below_drew1) | exact HB.out)⟩⟩
     case rest =>
      clear HC8
      try clear p2
      try clear c3
      try clear c4
      try clear c6
      try clear c6b0
      try clear c7
      try clear c7b0
      try clear c9
      try clear c9b0
      try clear c9b1
      try clear p2
      obtain ⟨kq, x13_7, HA, HJ7, HO_3, HO_4, HO_13, HB⟩ := hcut
      cases kq with
      | zero => exact absurd HA.out (by simp [tidepoleref09_Fits.j1])
      | succ kj7 =>
       have H := HA.out
       clear HA
       simp only [tidepoleref09_Fits.j1] at H
       have H' := Aside0.mk H
       clear H
       go_wp2
       go_loopg [11, 14] kj7 (fun kq v11 v14 w' => ∃ (x11_3 : Int) (x14_3 : Int), v11 = .int .u64 x11_3 ∧ v14 = .int .i64 x14_3 ∧ Aside0 (tidepoleref09_Fits.l1 kq a2 l3 l4 x11_3 x12_1 x13_7 x14_3 = some r) ∧ Aside0 (kq ≤ kj7) ∧ Aside0 (Kd.V (Kd.int .i64) 2 w' w.heap.size (fun k_ => ((P3_ k_ ∨ P4_ k_) ∨ w.heap.size ≤ k_)) (.slice A3 l3.length c3) l3) ∧ Aside0 (Kd.V (Kd.int .i64) 2 w' w.heap.size (fun k_ => ((P3_ k_ ∨ P4_ k_) ∨ w.heap.size ≤ k_)) (.slice A4 l4.length c4) l4) ∧ Aside0 (Kd.V (Kd.int .i64) 2 w' w.heap.size (fun k_ => ((P3_ k_ ∨ P4_ k_) ∨ w.heap.size ≤ k_)) u13 x13_7) ∧ Aside0 (Below w.heap.size w w'))
       case atStart => exact ⟨(x11_1), (0), (by first | rfl | (simp; done) | (simp [*]; done)), (by first | rfl | (simp; done) | (simp [*]; done)), H', ⟨Nat.le_refl _⟩, ⟨by (with_reducible repeat (first | apply Kd.V_alloc | apply Kd.V_drewN | apply Kd.V_drew)); exact HO_3.out⟩, ⟨by (with_reducible repeat (first | apply Kd.V_alloc | apply Kd.V_drewN | apply Kd.V_drew)); exact HO_4.out⟩, ⟨by (with_reducible repeat (first | apply Kd.V_alloc | apply Kd.V_drewN | apply Kd.V_drew)); exact HO_13.out⟩, ⟨by repeat (first | (with_reducible first | exact HB.out | apply below_alloc | apply pw_below_drewN | apply below_drew1) | exact HB.out)⟩⟩
       case round =>
        clear H'
        try clear p2
        try clear c3
        try clear c4
        try clear c6
        try clear c6b0
        try clear c7
        try clear c7b0
        try clear c9
        try clear c9b0
        try clear c9b1
        try clear p2
        obtain ⟨x11_3, x14_3, rfl, rfl, HA, HK3, HO_3, HO_4, HO_13, HB⟩ := hrel
        cases gk with
        | zero => exact absurd HA.out (by simp [tidepoleref09_Fits.l1])
        | succ k3 =>
         have H := HA.out
         clear HA
         simp only [tidepoleref09_Fits.l1] at H
         by_cases c10 : x14_3 < (x13_7.length : Int)
         ·rw [if_pos c10] at H
          have c10b0 : decide (x14_3 < (x13_7.length : Int)) = true := decide_eq_true c10
          clear c10
          by_cases c11 : 0 ≤ x14_3
          ·rw [if_pos c11] at H
           have c11b0 : decide (0 ≤ x14_3) = true := decide_eq_true c11
           clear c11
           by_cases c12 : (rd x13_7 x14_3) < 0
           ·rw [if_pos c12] at H
            have c12b0 : decide ((rd x13_7 x14_3) < 0) = true := decide_eq_true c12
            clear c12
            obtain rfl := Option.some.inj H
            obtain ⟨Ao13, co13, eo13⟩ := Kd.V_slice HO_13.out
            subst eo13
            have p102 : 0 ≤ (x14_3 : Int) := of_decide_eq_true (by first | (with_reducible assumption) | assumption)
            have q102 : x14_3 < (x13_7.length : Int) := of_decide_eq_true (by first | (with_reducible assumption) | assumption)
            obtain ⟨ad102, e102, hx102_0⟩ := Kd.at_int (Kd.V_reads' HO_13.out).2.2 x14_3 p102 q102
            cases e102
            replace p102 := eq_true p102
            replace q102 := eq_true q102
            go_wp2
            go_ret
            exact ⟨by first | rfl | (simp [errW_none, errW_some] <;> rfl) | (simp [*, errW_none, errW_some] <;> rfl), by repeat (first | (with_reducible first | exact HB.out | apply below_alloc | apply pw_below_drewN | apply below_drew1) | exact HB.out)⟩
           ·rw [if_neg c12] at H
            have c12b0 : decide ((rd x13_7 x14_3) < 0) = false := decide_eq_false c12
            clear c12
            by_cases c14 : (IntKind.u64.wrap (rd x13_7 x14_3)) > x11_3
            ·rw [if_pos c14] at H
             have c14b0 : decide (x11_3 < (IntKind.u64.wrap (rd x13_7 x14_3))) = true := decide_eq_true c14
             clear c14
             obtain rfl := Option.some.inj H
             obtain ⟨Ao15, co15, eo15⟩ := Kd.V_slice HO_13.out
             subst eo15
             have p102 : 0 ≤ (x14_3 : Int) := of_decide_eq_true (by first | (with_reducible assumption) | assumption)
             have q102 : x14_3 < (x13_7.length : Int) := of_decide_eq_true (by first | (with_reducible assumption) | assumption)
             obtain ⟨ad102, e102, hx102_0⟩ := Kd.at_int (Kd.V_reads' HO_13.out).2.2 x14_3 p102 q102
             cases e102
             replace p102 := eq_true p102
             replace q102 := eq_true q102
             have p103 : 0 ≤ (x14_3 : Int) := of_decide_eq_true (by first | (with_reducible assumption) | assumption)
             have q103 : x14_3 < (x13_7.length : Int) := of_decide_eq_true (by first | (with_reducible assumption) | assumption)
             obtain ⟨ad103, e103, hx103_0⟩ := Kd.at_int (Kd.V_reads' HO_13.out).2.2 x14_3 p103 q103
             obtain rfl : ad102 = ad103 := (by injection e103)
             replace p103 := eq_true p103
             replace q103 := eq_true q103
             go_wp2
             go_ret
             exact ⟨by first | rfl | (simp [errW_none, errW_some] <;> rfl) | (simp [*, errW_none, errW_some] <;> rfl), by repeat (first | (with_reducible first | exact HB.out | apply below_alloc | apply pw_below_drewN | apply below_drew1) | exact HB.out)⟩
            ·rw [if_neg c14] at H
             have c14b0 : decide (x11_3 < (IntKind.u64.wrap (rd x13_7 x14_3))) = false := decide_eq_false c14
             clear c14
             have H' := Aside0.mk H
             clear H
             obtain ⟨Ao16, co16, eo16⟩ := Kd.V_slice HO_13.out
             subst eo16
             have p102 : 0 ≤ (x14_3 : Int) := of_decide_eq_true (by first | (with_reducible assumption) | assumption)
             have q102 : x14_3 < (x13_7.length : Int) := of_decide_eq_true (by first | (with_reducible assumption) | assumption)
             obtain ⟨ad102, e102, hx102_0⟩ := Kd.at_int (Kd.V_reads' HO_13.out).2.2 x14_3 p102 q102
             cases e102
             replace p102 := eq_true p102
             replace q102 := eq_true q102
             have p103 : 0 ≤ (x14_3 : Int) := of_decide_eq_true (by first | (with_reducible assumption) | assumption)
             have q103 : x14_3 < (x13_7.length : Int) := of_decide_eq_true (by first | (with_reducible assumption) | assumption)
             obtain ⟨ad103, e103, hx103_0⟩ := Kd.at_int (Kd.V_reads' HO_13.out).2.2 x14_3 p103 q103
             obtain rfl : ad102 = ad103 := (by injection e103)
             replace p103 := eq_true p103
             replace q103 := eq_true q103
             have p104 : 0 ≤ (x14_3 : Int) := of_decide_eq_true (by first | (with_reducible assumption) | assumption)
             have q104 : x14_3 < (x13_7.length : Int) := of_decide_eq_true (by first | (with_reducible assumption) | assumption)
             obtain ⟨ad104, e104, hx104_0⟩ := Kd.at_int (Kd.V_reads' HO_13.out).2.2 x14_3 p104 q104
             obtain rfl : ad102 = ad104 := (by injection e104)
             replace p104 := eq_true p104
             replace q104 := eq_true q104
             go_wp2
             go_roundg k3
             case measure => have := HK1.out; have := HJ7.out; have := HK3.out; omega
             case rel => exact ⟨(IntKind.u64.wrap (x11_3 - (IntKind.u64.wrap (rd x13_7 x14_3)))), (wrap64 (x14_3 + 1)), (by first | rfl | (simp; done) | (simp [*]; done)), (by first | rfl | (simp; done) | (simp [*]; done)), H', ⟨by have := HK1.out; have := HJ7.out; have := HK3.out; omega⟩, ⟨by (with_reducible repeat (first | apply Kd.V_alloc | apply Kd.V_drewN | apply Kd.V_drew)); exact HO_3.out⟩, ⟨by (with_reducible repeat (first | apply Kd.V_alloc | apply Kd.V_drewN | apply Kd.V_drew)); exact HO_4.out⟩, ⟨by (with_reducible repeat (first | apply Kd.V_alloc | apply Kd.V_drewN | apply Kd.V_drew)); exact HO_13.out⟩, ⟨by repeat (first | (with_reducible first | exact HB.out | apply below_alloc | apply pw_below_drewN | apply below_drew1) | exact HB.out)⟩⟩
          ·rw [if_neg c11] at H
           exact absurd H (by simp)
         ·rw [if_neg c10] at H
          have c10b0 : decide (x14_3 < (x13_7.length : Int)) = false := decide_eq_false c10
          clear c10
          have H' := Aside0.mk H
          clear H
          obtain ⟨Ao17, co17, eo17⟩ := Kd.V_slice HO_13.out
          subst eo17
          go_wp2
          go_roundg k3
          case measure => have := HK1.out; have := HJ7.out; have := HK3.out; omega
          case rel => exact ⟨(x11_3), (wrap64 (x12_1 + 1)), (by first | rfl | (simp; done) | (simp [*]; done)), (by first | rfl | (simp; done) | (simp [*]; done)), H', ⟨by have := HK1.out; have := HJ7.out; have := HK3.out; omega⟩, ⟨by (with_reducible repeat (first | apply Kd.V_alloc | apply Kd.V_drewN | apply Kd.V_drew)); exact HO_3.out⟩, ⟨by (with_reducible repeat (first | apply Kd.V_alloc | apply Kd.V_drewN | apply Kd.V_drew)); exact HO_4.out⟩, ⟨by repeat (first | (with_reducible first | exact HB.out | apply below_alloc | apply pw_below_drewN | apply below_drew1) | exact HB.out)⟩⟩
    ·rw [if_neg c7] at H
     have c7b0 : decide (x12_1 < 2) = false := decide_eq_false c7
     clear c7
     by_cases c18 : x11_1 > 0
     ·rw [if_pos c18] at H
      have c18b0 : decide (0 < x11_1) = true := decide_eq_true c18
      clear c18
      replace H := Option.bind_eq_some_iff.mp H
      obtain ⟨t101, A190, H⟩ := H
      replace H : (if t101 = true then (some 0) else (some 22)) = some r := H
      have A19 := Aside0.mk A190
      clear A190
      by_cases c20 : t101 = true
      ·subst c20
       have H1 : (some 0) = some r := by rw [if_pos rfl] at H; exact H
       clear H
       have H := H1
       clear H1
       obtain rfl := Option.some.inj H
       go_wp2_with (first | (go_at_call 106; (with_reducible refine (tidepoleref09_NaN.calls a2 true _ A19.out).mono ?_); rintro e w' ⟨rfl, ⟨nd, rfl⟩⟩; clear A19))
       go_ret
       exact ⟨by first | rfl | (simp [errW_none, errW_some] <;> rfl) | (simp [*, errW_none, errW_some] <;> rfl), by repeat (first | (with_reducible first | exact HB.out | apply below_alloc | apply pw_below_drewN | apply below_drew1) | exact HB.out)⟩
      ·replace c20 := Bool.eq_false_iff.mpr c20
       subst c20
       have H1 : (some 22) = some r := by rw [if_neg (show ¬ (false = true) by decide)] at H; exact H
       clear H
       have H := H1
       clear H1
       obtain rfl := Option.some.inj H
       go_wp2_with (first | (go_at_call 106; (with_reducible refine (tidepoleref09_NaN.calls a2 false _ A19.out).mono ?_); rintro e w' ⟨rfl, ⟨nd, rfl⟩⟩; clear A19))
       go_ret
       exact ⟨by first | rfl | (simp [errW_none, errW_some] <;> rfl) | (simp [*, errW_none, errW_some] <;> rfl), by repeat (first | (with_reducible first | exact HB.out | apply below_alloc | apply pw_below_drewN | apply below_drew1) | exact HB.out)⟩
     ·rw [if_neg c18] at H
      have c18b0 : decide (0 < x11_1) = false := decide_eq_false c18
      clear c18
      obtain rfl := Option.some.inj H
      go_wp2
      go_ret
      exact ⟨by first | rfl | (simp [errW_none, errW_some] <;> rfl) | (simp [*, errW_none, errW_some] <;> rfl), by repeat (first | (with_reducible first | exact HB.out | apply below_alloc | apply pw_below_drewN | apply below_drew1) | exact HB.out)⟩
end Go.Proofs.Ytfbjjbbhnmoolaa.P
namespace Go.Proofs.Ytfbjjbbhnmoolaa.P
open Go.RowKit Go.Proofs.YtfbjjbbhnmoolaaW.PrintWords Go.Proofs.YtfbjjbbhnmoolaaW.PrintLast Go.Proofs.YtfbjjbbhnmoolaaW.PrintMore
theorem rd_map {α : Type} (f : α → Int) {l : List α} {i : Nat} (h : i < l.length) : rd (l.map f) (i : Int) = f l[i] := by rw [rd_at (by simpa using h)]; simp
theorem refSide_loop (ps c : List Int) (hm : c.length < 17592186044416) : ∀ (d k i : Nat), c.length - i = d → d < k → i ≤ c.length →
    tidepoleref09_Side.l0 k ps c (i : Int) = some (if (c.drop i).any (fun x => decide (x < 0)) = true then ([], [], 22) else (ps, c, 0)) := by
  intro d
  induction d with
  | zero =>
    intro k i hd hk hi
    obtain ⟨k, rfl⟩ : ∃ m, k = m + 1 := ⟨k - 1, by omega⟩
    rw [tidepoleref09_Side.l0, if_neg (by omega), drop_end (by omega)]; rfl
  | succ d ih =>
    intro k i hd hk hi
    obtain ⟨k, rfl⟩ : ∃ m, k = m + 1 := ⟨k - 1, by omega⟩
    have hlt : i < c.length := by omega
    rw [tidepoleref09_Side.l0, if_pos (by omega), if_pos (by omega), rd_at hlt, drop_at hlt, List.any_cons]
    by_cases h : c[i] < 0
    · rw [if_pos h, decide_eq_true h]; rfl
    · rw [if_neg h, decide_eq_false h, Bool.false_or, wrap_succ (by omega)]
      exact ih k (i + 1) (by omega) (by omega) (by omega)
def sideRef (l : List Sp) (d : List Int) : List Int × List Int × Int := ((sideRes l d).1.map (·.f0), (sideRes l d).1.map (·.f1), (sideRes l d).2)
theorem zipL : ∀ (ps v : List Int), ps.length = v.length → (List.zipWith (fun p x => (⟨p, x⟩ : Pr)) ps v).map (·.f0) = ps ∧ (List.zipWith (fun p x => (⟨p, x⟩ : Pr)) ps v).map (·.f1) = v
  | [], [], _ => ⟨rfl, rfl⟩
  | p :: ps, x :: v, h => by have := zipL ps v (by simpa using h); exact ⟨by simp only [List.zipWith_cons_cons, List.map_cons, this.1], by simp only [List.zipWith_cons_cons, List.map_cons, this.2]⟩
  | [], _ :: _, h => by simp at h
  | _ :: _, [], h => by simp at h
theorem refSide_eq (l : List Sp) (d : List Int) (hl : wfSps l) (hd : i64s d) (hm : d.length < 4398046511104) (k : Nat) (hk : 5120000 + d.length < k) : tidepoleref09_Side.f k (l.map toR) d = some (sideRef l d) := by
  unfold tidepoleref09_Side.f sideRef sideRes
  rw [refCheck_eq l hl k (by omega), Option.bind_some]
  by_cases h1 : spCheck l = 0
  · have hp := plN_length l 0 (fun s hs => (spRight_pos l _ _ _ (spCheck_zero h1).2 s hs).1)
    rw [if_pos h1, if_pos h1, refPlaces_eq l h1 k (by omega), Option.bind_some]
    by_cases h2 : cntN l = d.length
    · rw [if_pos (by omega), if_pos h2, refAbsolute_eq d hd (by omega) k (by omega), Option.bind_some]
      cases hs : sumsFrom 0 d with
      | none => simp
      | some c =>
        have hc := sumsFrom_length d 0 c hs
        simp only
        have hlp := refSide_loop (plN 0 l) c (by omega) c.length k 0 (by omega) (by omega) (by omega)
        rw [List.drop_zero, show ((0 : Nat) : Int) = 0 from rfl] at hlp
        rw [if_neg (by omega), hlp]
        by_cases h3 : c.any (fun x => decide (x < 0)) = true
        · rw [if_pos h3, if_pos h3]; rfl
        · rw [if_neg h3, if_neg h3]
          have := zipL (plN 0 l) c (by omega)
          simp only [this.1, this.2]
    · rw [if_neg (by omega), if_neg h2]; rfl
  · rw [if_neg h1, if_neg h1]; rfl
theorem andNot_eq (v : Int) (h : u64 v) : Go.bits .andNot .u64 v 9223372036854775808 = if v ≥ 9223372036854775808 then v - 9223372036854775808 else v := by
  have h0 := h.1; have h1 := h.2
  rw [Go.u64_andNot v 9223372036854775808 h0 (by omega) (by omega) (by omega)]
  have e : (18446744073709551615 - (9223372036854775808 : Int).toNat : Nat) = 2 ^ 63 - 1 := by decide
  rw [e, Nat.and_two_pow_sub_one_eq_mod]
  split <;> omega
theorem refNaN_eq (v : Int) (h : u64 v) : tidepoleref09_NaN.f v = some (nan v) := by
  unfold tidepoleref09_NaN.f nan
  rw [andNot_eq v h]
  have := h.1; have := h.2
  by_cases c : v ≥ 9223372036854775808
  · rw [if_pos c, if_pos c]
    have : IntKind.u64.wrap (v - 9223372036854775808) = v - 9223372036854775808 := by
      show (v - 9223372036854775808) % 18446744073709551616 = _; omega
    rw [this]
  · rw [if_neg c, if_neg c]
theorem refHead_eq (s z : Int) (k : Nat) (hk : 0 < k) : tidepoleref09_Head.f k s z = some (if s < -4 ∨ s > 8 then 21 else if ¬ z < 9218868437227405312 then 11 else 0) := by
  obtain ⟨k, rfl⟩ : ∃ m, k = m + 1 := ⟨k - 1, by omega⟩
  unfold tidepoleref09_Head.f
  by_cases h1 : s < -4
  · rw [if_pos h1, tidepoleref09_Head.j0, if_pos rfl, if_pos (Or.inl h1)]
  · rw [if_neg h1, tidepoleref09_Head.j0]
    by_cases h2 : s > 8
    · rw [if_pos (by simpa using h2), if_pos (Or.inr h2)]
    · rw [if_neg (by simpa using h2), if_neg (c := s < -4 ∨ s > 8) (by omega)]
      by_cases h3 : z < 9218868437227405312
      · rw [if_neg (by omega), if_neg (by omega)]
      · rw [if_pos (by omega), if_pos h3]
def leftV : Int → List Pr → Option Int
  | a, [] => some a
  | a, p :: l => if p.f1 > a then none else leftV (a - p.f1) l
theorem leftV_eq : ∀ (l : List Pr) (a : Int), (∀ p ∈ l, 0 ≤ p.f1) → leftV a l = if sumV l ≤ a then some (a - sumV l) else (if 0 ≤ a then none else leftV a l)
  | [], a, _ => by
    by_cases h : 0 ≤ a
    · simp [leftV, sumV, h]
    · simp [leftV, sumV, h]
  | p :: l, a, hp => by
    have hq := fun x hx => hp x (List.mem_cons_of_mem _ hx)
    have h0 := hp p (List.mem_cons_self ..)
    have hs := sumV_nonneg (l := l) hq
    have e : sumV (p :: l) = p.f1 + sumV l := by simp [sumV]
    rw [e]
    simp only [leftV]
    by_cases c : p.f1 > a
    · rw [if_pos c, if_neg (by omega)]; split <;> rfl
    · rw [if_neg c, leftV_eq l _ hq]
      by_cases d : sumV l ≤ a - p.f1
      · rw [if_pos d, if_pos (by omega)]; congr 1; omega
      · rw [if_neg d, if_neg (c := p.f1 + sumV l ≤ a) (by omega), if_pos (c := 0 ≤ a - p.f1) (by omega), if_pos (c := 0 ≤ a) (by omega)]
theorem u64_wrap {x : Int} (h : u64 x) : IntKind.u64.wrap x = x := by
  have := h.1; have := h.2
  show x % 18446744073709551616 = x; omega
theorem refFits_l1 (sm : Int) (P N : List Int) (l : List Pr) (h : ∀ p ∈ l, 0 ≤ p.f1 ∧ p.f1 ≤ 9223372036854775807) (hm : l.length < 17592186044416) (side : Int) : ∀ (d k i : Nat) (a : Int), l.length - i = d → d < k → i ≤ l.length → u64 a →
    tidepoleref09_Fits.l1 k sm P N a side (l.map (·.f1)) (i : Int) = match leftV a (l.drop i) with | none => some 22 | some b => tidepoleref09_Fits.l0 (k - d - 1) sm P N b (wrap64 (side + 1)) := by
  intro d
  induction d with
  | zero =>
    intro k i a hd hk hi ha
    obtain ⟨k, rfl⟩ : ∃ m, k = m + 1 := ⟨k - 1, by omega⟩
    rw [tidepoleref09_Fits.l1, List.length_map, if_neg (by omega), drop_end (by omega)]; rfl
  | succ d ih =>
    intro k i a hd hk hi ha
    obtain ⟨k, rfl⟩ : ∃ m, k = m + 1 := ⟨k - 1, by omega⟩
    have hlt : i < l.length := by omega
    have hx := h _ (List.getElem_mem hlt)
    have h0 := ha.1
    have h1 := ha.2
    rw [tidepoleref09_Fits.l1, List.length_map, if_pos (by omega), if_pos (by omega), rd_map _ hlt, drop_at hlt, if_neg (by omega), u64_wrap (x := l[i].f1) ⟨by omega, by omega⟩]
    simp only [leftV]
    by_cases c : l[i].f1 > a
    · rw [if_pos c, if_pos c]
    · have hr := ih k (i + 1) (a - l[i].f1) (by omega) (by omega) (by omega) ⟨by omega, by omega⟩
      rw [if_neg c, if_neg c, u64_wrap (x := a - l[i].f1) ⟨by omega, by omega⟩, wrap_succ (by omega), hr]
      rw [show k + 1 - (d + 1) - 1 = k - d - 1 by omega]
theorem refFits_eq (zc ct sm : Int) (p n : List Pr) (hz : u64 zc) (hc : u64 ct) (hs : u64 sm) (hp : ∀ x ∈ p, 0 ≤ x.f1 ∧ x.f1 ≤ 9223372036854775807) (hn : ∀ x ∈ n, 0 ≤ x.f1 ∧ x.f1 ≤ 9223372036854775807) (hpm : p.length < 17592186044416) (hnm : n.length < 17592186044416) (k : Nat) (hk : p.length + n.length + 10 < k) :
    tidepoleref09_Fits.f k zc ct sm (p.map (·.f1)) (n.map (·.f1)) = some (if fits zc ct sm p n = true then 0 else 22) := by
  have hsp := sumV_nonneg (l := p) (fun x hx => (hp x hx).1)
  have hsn := sumV_nonneg (l := n) (fun x hx => (hn x hx).1)
  have hz0 := hz.1; have hz1 := hz.2; have hc0 := hc.1; have hc1 := hc.2
  have hF : fits zc ct sm p n = decide (zc + sumV p + sumV n ≤ ct ∧ (zc + sumV p + sumV n = ct ∨ nan sm = true)) := by
    unfold fits totalRes
    have e : sumR [p, n] = sumV p + sumV n := by simp [sumR]
    rw [e]
    by_cases c : zc + (sumV p + sumV n) ≤ 18446744073709551615
    · rw [if_pos c]
      simp only [Bool.true_and]
      rw [Bool.eq_iff_iff, Bool.and_eq_true, Bool.or_eq_true, decide_eq_true_eq, decide_eq_true_eq, decide_eq_true_eq]
      constructor
      · rintro ⟨h1, h2⟩
        exact ⟨by omega, h2.imp (fun h => by omega) id⟩
      · rintro ⟨h1, h2⟩
        exact ⟨by omega, h2.imp (fun h => by omega) id⟩
    · rw [if_neg c]
      simp only [Bool.false_and]
      rw [decide_eq_false (by omega)]
  unfold tidepoleref09_Fits.f
  by_cases c0 : zc > ct
  · rw [if_pos c0, hF, decide_eq_false (by omega)]; rfl
  rw [if_neg c0, u64_wrap (x := ct - zc) ⟨by omega, by omega⟩]
  obtain ⟨k, rfl⟩ : ∃ m, k = m + 2 := ⟨k - 2, by omega⟩
  rw [tidepoleref09_Fits.l0, if_pos (by omega), if_neg (by omega), tidepoleref09_Fits.j1]
  have h1 := refFits_l1 sm (p.map (·.f1)) (n.map (·.f1)) p hp hpm 0 p.length k 0 (ct - zc) (by omega) (by omega) (by omega) ⟨by omega, by omega⟩
  rw [show ((0 : Nat) : Int) = 0 from rfl] at h1
  rw [h1, List.drop_zero, leftV_eq p _ (fun x hx => (hp x hx).1)]
  by_cases c1 : sumV p ≤ ct - zc
  rotate_left
  · rw [if_neg c1, if_pos (by omega), hF, decide_eq_false (by omega)]; rfl
  rw [if_pos c1]
  simp only
  rw [show wrap64 (0 + 1) = 1 from by unfold wrap64; omega]
  obtain ⟨j, hj⟩ : ∃ m, k - p.length - 1 = m + 2 := ⟨k - p.length - 1 - 2, by omega⟩
  rw [hj, tidepoleref09_Fits.l0, if_pos (by omega), if_pos rfl, tidepoleref09_Fits.j1]
  have h2 := refFits_l1 sm (p.map (·.f1)) (n.map (·.f1)) n hn hnm 1 n.length j 0 (ct - zc - sumV p) (by omega) (by omega) (by omega) ⟨by omega, by omega⟩
  rw [show ((0 : Nat) : Int) = 0 from rfl] at h2
  rw [h2, List.drop_zero, leftV_eq n _ (fun x hx => (hn x hx).1)]
  by_cases c2 : sumV n ≤ ct - zc - sumV p
  rotate_left
  · rw [if_neg c2, if_pos (by omega), hF, decide_eq_false (by omega)]; rfl
  rw [if_pos c2]
  simp only
  rw [show wrap64 (1 + 1) = 2 from by unfold wrap64; omega]
  obtain ⟨i, hi⟩ : ∃ m, j - n.length - 1 = m + 1 := ⟨j - n.length - 1 - 1, by omega⟩
  rw [hi, tidepoleref09_Fits.l0, if_neg (by omega), refNaN_eq sm hs, Option.bind_some, hF]
  by_cases c3 : ct - zc - sumV p - sumV n > 0
  · rw [if_pos c3]
    cases hnn : nan sm with
    | true => rw [if_pos rfl, decide_eq_true ⟨by omega, Or.inr rfl⟩, if_pos rfl]
    | false => rw [if_neg (by simp), decide_eq_false (by rintro ⟨_, h | h⟩; omega; cases h), if_neg (by simp)]
  · rw [if_neg c3, decide_eq_true ⟨by omega, Or.inl (by omega)⟩, if_pos rfl]
end Go.Proofs.Ytfbjjbbhnmoolaa.P
namespace Go.Proofs.Ytfbjjbbhnmoolaa.P
open Go.RowKit Go.Shelf Go.Proofs.YtfbjjbbhnmoolaaW.PrintWords Go.Proofs.YtfbjjbbhnmoolaaW.PrintLast Go.Proofs.YtfbjjbbhnmoolaaW.PrintMore
def sameNums (a b : Hi) : Prop := a.f0 = b.f0 ∧ a.f1 = b.f1 ∧ a.f2 = b.f2 ∧ a.f3 = b.f3 ∧ a.f4 = b.f4
instance (a b : Hi) : Decidable (sameNums a b) := by unfold sameNums; exact inferInstance
end Go.Proofs.Ytfbjjbbhnmoolaa.P
namespace Go.Proofs.Ytfbjjbbhnmoolaa.P
open Go.RowKit Go.Shelf Go.Proofs.YtfbjjbbhnmoolaaW.PrintWords Go.Proofs.YtfbjjbbhnmoolaaW.PrintLast Go.Proofs.YtfbjjbbhnmoolaaW.PrintMore
def Blk (w : World) (g : Nat) (cs : Array Value) (t : TypeId) : Prop := w.heap[g]? = some (.cells cs t (0, 0))
theorem Blk.below {w w' : World} {g : Nat} {cs : Array Value} {t : TypeId} (h : Blk w g cs t) (hb : Below w.heap.size w w') : Blk w' g cs t := blk_below h hb
theorem Blk.cell {w : World} {g : Nat} {cs : Array Value} {t : TypeId} (h : Blk w g cs t) (i : Nat) : w.cell? ⟨g, i, none⟩ = cs[i]? := blk_cell h i
theorem Blk.new (w : World) (cs : Array Value) (t : TypeId) : Blk (w.alloc (.cells cs t)) w.heap.size cs t := blk_new w _
theorem Blk.alloc {w : World} {g : Nat} {cs : Array Value} {t : TypeId} (h : Blk w g cs t) (o : Obj) : Blk (w.alloc o) g cs t := blk_alloc h o
theorem Blk.at1 {w : World} (o : Obj) (cs : Array Value) (t : TypeId) : Blk ((w.alloc o).alloc (.cells cs t)) (w.heap.size + 1) cs t := by have := Blk.new (w.alloc o) cs t; simpa using this
abbrev kRsp := k117
def HR (w : World) (v : Value) (h : Hi) : Prop :=
  ∃ v5 v6 v7 v8, v = .agg #[.int .i64 h.f0, .int .u64 h.f1, .int .u64 h.f2, .int .u64 h.f3, .int .u64 h.f4, v5, v6, v7, v8] ∧ SI kRsp w v5 (h.f5.map toR) ∧ SI kRsp w v6 (h.f6.map toR) ∧ SI (Kd.int .i64) w v7 h.f7 ∧ SI (Kd.int .i64) w v8 h.f8
theorem HR.below {w w' : World} {v : Value} {h : Hi} (x : HR w v h) (hb : Below w.heap.size w w') : HR w' v h := by
  obtain ⟨v5, v6, v7, v8, e, h5, h6, h7, h8⟩ := x
  exact ⟨v5, v6, v7, v8, e, h5.below hb, h6.below hb, h7.below hb, h8.below hb⟩
theorem HR.open_ {w : World} {v : Value} {h : Hi} (x : HR w v h) : ∃ A5 c5 A6 c6 A7 c7 A8 c8, v = .agg #[.int .i64 h.f0, .int .u64 h.f1, .int .u64 h.f2, .int .u64 h.f3, .int .u64 h.f4, .slice A5 h.f5.length c5, .slice A6 h.f6.length c6, .slice A7 h.f7.length c7, .slice A8 h.f8.length c8] ∧
    SI kRsp w (.slice A5 h.f5.length c5) (h.f5.map toR) ∧ SI kRsp w (.slice A6 h.f6.length c6) (h.f6.map toR) ∧ SI (Kd.int .i64) w (.slice A7 h.f7.length c7) h.f7 ∧ SI (Kd.int .i64) w (.slice A8 h.f8.length c8) h.f8 := by
  obtain ⟨v5, v6, v7, v8, rfl, h5, h6, h7, h8⟩ := x
  obtain ⟨A5, c5, rfl, h51, h52⟩ := h5
  obtain ⟨A6, c6, rfl, h61, h62⟩ := h6
  obtain ⟨A7, c7, rfl, h71, h72⟩ := h7
  obtain ⟨A8, c8, rfl, h81, h82⟩ := h8
  rw [List.length_map]
  rw [List.length_map]
  refine ⟨A5, c5, A6, c6, A7, c7, A8, c8, rfl, ⟨A5, c5, by rw [List.length_map], h51, h52⟩, ⟨A6, c6, by rw [List.length_map], h61, h62⟩, .of h72 h71, .of h82 h81⟩
end Go.Proofs.Ytfbjjbbhnmoolaa.P
namespace Go.Proofs.Ytfbjjbbhnmoolaa.P
open Go.RowKit Go.Proofs.YtfbjjbbhnmoolaaW.PrintWords Go.Proofs.YtfbjjbbhnmoolaaW.PrintLast Go.Proofs.YtfbjjbbhnmoolaaW.PrintMore
attribute [local go_sem] max2_int min2_int max_two min_two max_three min_three max_four min_four
def pairs_Pair_int64_72.l0 : Nat → List (S109) → Int → Int → Option ((List (S109)))
 | 0, _, _, _ => none
 | k + 1, x0, x2, x3 => if x2 < x3 then (if 0 ≤ x3 then (if x3 < (x0.length : Int) then (if 0 ≤ x2 then (if x2 < (x0.length : Int) then (pairs_Pair_int64_72.l0 k ((x0.set (x2 : Int).toNat (⟨(rd_T109 x0 x3).f0, (rd_T109 x0 x3).f1⟩ : S109)).set (x3 : Int).toNat (⟨(rd_T109 x0 x2).f0, (rd_T109 x0 x2).f1⟩ : S109)) (wrap64 (x2 + 1)) (wrap64 (x3 - 1))) else (none)) else (none)) else (none)) else (none)) else (some x0)
def pairs_Pair_int64_72.f (k : Nat) (l0 : List (S109)) : Option ((List (S109))) := pairs_Pair_int64_72.l0 k l0 0 (wrap64 ((l0.length : Int) - 1))
def pairs_Pair_int64_72.T3 : Bool × List (List Nat × List Nat) := (true, [([], []), ([], []), ([], []), ([], []), ([], []), ([], []), ([4, 5], [4, 5]), ([6], [6]), ([], []), ([], []), ([8, 9], [8, 9]), ([10], [10]), ([0, 1, 0, 1, 4, 5, 6, 7, 11], [0, 1]), ([12, 7, 0, 1, 4, 5, 6, 7, 11], [7, 12]), ([2, 3, 0, 1, 2, 3, 4, 5, 6, 7, 8, 9, 10, 11, 12, 13], [2, 3]), ([14, 11, 13, 0, 1, 2, 3, 4, 5, 6, 7, 8, 9, 10, 11, 12, 13], [11, 14])])
def pairs_Pair_int64_72.B3 : List Nat := [0, 0, 0, 0, 0, 0, 48, 112, 0, 0, 768, 1792, 4083, 8179, 16383, 32767]
theorem pairs_Pair_int64_72.tab3 : rtab .any (opsOf Try.f72 3) = pairs_Pair_int64_72.T3 := by kernel_rfl
theorem pairs_Pair_int64_72.bits3 : waitsOk pairs_Pair_int64_72.T3.2 pairs_Pair_int64_72.B3 = true := by kernel_rfl
set_option maxHeartbeats 8000000 in
set_option maxRecDepth 100000 in
theorem pairs_Pair_int64_72.calls (k : Nat) (P0_ : Nat → Prop) (u9000_ : Value) (l0 : List (S109)) (r : List (S109)) (w0 w : World) (hB : Below w0.heap.size w0 w) (ho0 : Kd.R k109 109 w w0.heap.size P0_ u9000_ l0) (h : pairs_Pair_int64_72.f k l0 = some r) :
  Calls Try.prog 72 #[u9000_] w fun e w' => e = .returned (.tuple #[]) ∧ Kd.R k109 109 w' w0.heap.size (fun k_ => (P0_ k_ ∨ w.heap.size ≤ k_)) u9000_ r ∧ Below w0.heap.size w0 w' ∧ Kept w w' (fun k_ => P0_ k_) := by
 have hu109 := Try.underlying109
 have HO0 := Aside0.mk (show Kd.R k109 109 w w0.heap.size (fun k_ => (P0_ k_ ∨ w.heap.size ≤ k_)) u9000_ l0 from Kd.R_mono ho0 (fun k_ hk => (.inl hk)))
 have HK := Aside0.mk (Kept.refl w (fun k_ => P0_ k_))
 have HW0 := Aside0.mk hB.size
 have HB := Aside0.mk hB
 clear hB
 have H : (pairs_Pair_int64_72.l0 k l0 0 (wrap64 ((l0.length : Int) - 1))) = some r := h
 clear h
 have H' := Aside0.mk H
 clear H
 obtain ⟨Ao2, co2, eo2⟩ := Kd.R_slice HO0.out
 subst eo2
 go_enter Try.func72, Try.ntmps72
 go_wp2
 go_loopg [2, 3] k (fun kq v2 v3 w' => ∃ (x0_1 : List (S109)) (x2_1 : Int) (x3_1 : Int), v2 = .int .i64 x2_1 ∧ v3 = .int .i64 x3_1 ∧ Aside0 (pairs_Pair_int64_72.l0 kq x0_1 x2_1 x3_1 = some r) ∧ Aside0 (kq ≤ k) ∧ Aside0 (Kd.R k109 109 w' w0.heap.size (fun k_ => (P0_ k_ ∨ w.heap.size ≤ k_)) (.slice Ao2 l0.length co2) x0_1) ∧ Aside0 (Kept w w' (fun k_ => P0_ k_)) ∧ Aside0 (Below w0.heap.size w0 w'))
 case atStart => exact ⟨(l0), (0), (wrap64 ((l0.length : Int) - 1)), (by first | rfl | (simp; done) | (simp [*]; done)), (by first | rfl | (simp; done) | (simp [*]; done)), H', ⟨Nat.le_refl _⟩, ⟨by (with_reducible repeat (first | apply Kd.R_alloc | apply Kd.R_drewN | apply Kd.R_drew)); exact HO0.out⟩, ⟨by repeat (first | (with_reducible first | exact HK.out | apply Kept.alloc | apply Kept.drewN | apply Kept.drew) | exact HK.out)⟩, ⟨by repeat (first | (with_reducible first | exact HB.out | apply below_alloc | apply pw_below_drewN | apply below_drew1) | exact HB.out)⟩⟩
 case round =>
  clear H'
  try clear p2
  obtain ⟨x0_1, x2_1, x3_1, rfl, rfl, HA, HK1, HO_0, HK, HB⟩ := hrel
  have hl0_1 := (Kd.R_reads' HO_0.out).1
  rw [hl0_1] at HO_0
  (try simp only [hl0_1])
  cases gk with
  | zero => exact absurd HA.out (by simp [pairs_Pair_int64_72.l0])
  | succ k1 =>
   have H := HA.out
   clear HA
   simp only [pairs_Pair_int64_72.l0] at H
   by_cases c3 : x2_1 < x3_1
   ·rw [if_pos c3] at H
    have c3b0 : decide (x2_1 < x3_1) = true := decide_eq_true c3
    clear c3
    by_cases c4 : 0 ≤ x3_1
    ·rw [if_pos c4] at H
     have c4b0 : decide (0 ≤ x3_1) = true := decide_eq_true c4
     clear c4
     by_cases c5 : x3_1 < (x0_1.length : Int)
     ·rw [if_pos c5] at H
      have c5b0 : decide (x3_1 < (x0_1.length : Int)) = true := decide_eq_true c5
      clear c5
      by_cases c6 : 0 ≤ x2_1
      ·rw [if_pos c6] at H
       have c6b0 : decide (0 ≤ x2_1) = true := decide_eq_true c6
       clear c6
       by_cases c7 : x2_1 < (x0_1.length : Int)
       ·rw [if_pos c7] at H
        have c7b0 : decide (x2_1 < (x0_1.length : Int)) = true := decide_eq_true c7
        clear c7
        obtain ⟨y103, hy103⟩ : ∃ y_ : List (S109), y_ = (x0_1.set (x2_1 : Int).toNat (⟨(rd_T109 x0_1 x3_1).f0, (rd_T109 x0_1 x3_1).f1⟩ : S109)) := ⟨_, rfl⟩
        replace H : (pairs_Pair_int64_72.l0 k1 (y103.set (x3_1 : Int).toNat (⟨(rd_T109 x0_1 x2_1).f0, (rd_T109 x0_1 x2_1).f1⟩ : S109)) (wrap64 (x2_1 + 1)) (wrap64 (x3_1 - 1))) = some r := by first | (rw [hy103]; with_reducible exact H) | (have H2_ := (Option.bind_some _ _).symm.trans H; rw [hy103]; with_reducible exact H2_) | (have H2_ := (Option.bind_some _ _).symm.trans H; with_reducible exact H2_) | with_reducible exact H | (rw [hy103]; exact H) | exact H
        have Ny103 := Aside0.mk hy103
        clear hy103
        obtain ⟨y104, hy104⟩ : ∃ y_ : List (S109), y_ = (y103.set (x3_1 : Int).toNat (⟨(rd_T109 x0_1 x2_1).f0, (rd_T109 x0_1 x2_1).f1⟩ : S109)) := ⟨_, rfl⟩
        replace H : (pairs_Pair_int64_72.l0 k1 y104 (wrap64 (x2_1 + 1)) (wrap64 (x3_1 - 1))) = some r := by first | (rw [hy104]; with_reducible exact H) | (have H2_ := (Option.bind_some _ _).symm.trans H; rw [hy104]; with_reducible exact H2_) | (have H2_ := (Option.bind_some _ _).symm.trans H; with_reducible exact H2_) | with_reducible exact H | (rw [hy104]; exact H) | exact H
        have Ny104 := Aside0.mk hy104
        clear hy104
        have H' := Aside0.mk H
        clear H
        have hne1_ : ¬ (x2_1.toNat * 2 = x3_1.toNat * 2) := by have h1_ := of_decide_eq_true c3b0; have h2_ := of_decide_eq_true c6b0; omega
        have hne2_ : ¬ (x3_1.toNat * 2 = x2_1.toNat * 2) := by have h1_ := of_decide_eq_true c3b0; have h2_ := of_decide_eq_true c6b0; omega
        have hne3_ : ¬ (x3_1.toNat = x2_1.toNat) := by have h1_ := of_decide_eq_true c3b0; have h2_ := of_decide_eq_true c6b0; omega
        have hne4_ : ¬ (x2_1.toNat = x3_1.toNat) := by have h1_ := of_decide_eq_true c3b0; have h2_ := of_decide_eq_true c6b0; omega
        try go_wp2
        have n0_ := Aside0.mk (Kd.R_drew HO_0.out)
        have n1_ := Aside0.mk (Kept.drew HK.out)
        have n2_ := Aside0.mk (below_drew1 HB.out)
        clear HO_0
        clear HK
        clear HB
        have HO_0 := n0_
        have HK := n1_
        have HB := n2_
        clear n0_ n1_ n2_
        have p101 : 0 ≤ (x3_1 : Int) := of_decide_eq_true (by first | (with_reducible assumption) | assumption)
        have q101 : x3_1 < (x0_1.length : Int) := of_decide_eq_true (by first | (with_reducible assumption) | assumption)
        obtain ⟨ad101, e101, hx101_0, hx101_1⟩ := at_T109 (Kd.R_reads' HO_0.out).2.2 x3_1 p101 q101
        cases e101
        replace p101 := eq_true p101
        replace q101 := eq_true q101
        have p102 : 0 ≤ (x2_1 : Int) := of_decide_eq_true (by first | (with_reducible assumption) | assumption)
        have q102 : x2_1 < (x0_1.length : Int) := of_decide_eq_true (by first | (with_reducible assumption) | assumption)
        obtain ⟨ad102, e102, hx102_0, hx102_1⟩ := at_T109 (Kd.R_reads' HO_0.out).2.2 x2_1 p102 q102
        obtain rfl : ad101 = ad102 := (by injection e102)
        replace p102 := eq_true p102
        replace q102 := eq_true q102
        have p8 : 0 ≤ (x2_1 : Int) := of_decide_eq_true (by first | (with_reducible assumption) | assumption)
        have q8 : (x2_1 : Int) < ((x0_1.length : Int) : Int) := of_decide_eq_true (by first | (with_reducible assumption) | assumption)
        obtain ⟨go8, co8, eo8, gb8, gl8, cl8, HG8⟩ := Kd.R_form HO_0.out (by omega)
        (first | cases eo8 | (injection eo8 with ea_ en_ ec_; (first | subst ea_ | (injection ea_ with ea_; subst ea_)); subst ec_; clear en_))
        have GB8 := Aside0.mk gb8
        have GG8 := Aside0.mk HG8
        clear gb8 gl8 HG8
        have HMgo8 := Aside0.mk (show (P0_ go8 ∨ w.heap.size ≤ go8) from (HO_0.out.1 _ rfl))
        (first | simp only [add_plain] at hx101_0 | skip)
        (first | simp only [add_plain] at hx101_1 | skip)
        (first | simp only [add_plain] at hx102_0 | skip)
        (first | simp only [add_plain] at hx102_1 | skip)
        obtain ⟨ce8, hcl8, hM8, hcc8, hfr8⟩ := Kd.R_elem HO_0.out z109 (x2_1 : Int) p8 q8
        obtain rfl := k109_openM hM8
        have hx8_0 : World.cell? _ ⟨go8, (x2_1 : Int).toNat * 2, none⟩ = some (.int .i64 ((rd_T109 x0_1 x2_1).f0)) := hcc8 0 _ rfl
        have hx8_1 : World.cell? _ ⟨go8, (x2_1 : Int).toNat * 2 + 1, none⟩ = some (.int .i64 ((rd_T109 x0_1 x2_1).f1)) := hcc8 1 _ rfl
        have hf8_0 : World.frozen? _ ⟨go8, (x2_1 : Int).toNat * 2, none⟩ = false := hfr8 0
        have hf8_1 : World.frozen? _ ⟨go8, (x2_1 : Int).toNat * 2 + 1, none⟩ = false := hfr8 1
        clear hcl8 hcc8 hfr8 hM8
        replace p8 := eq_true p8
        replace q8 := eq_true q8
        obtain ⟨ce7_, -, -, -, hfr7_⟩ := Kd.R_elem HO_0.out z109 (x3_1 : Int) (of_decide_eq_true c4b0) (of_decide_eq_true c5b0)
        have hf7_0 : World.frozen? _ ⟨go8, (x3_1 : Int).toNat * 2, none⟩ = false := hfr7_ 0
        have hf7_1 : World.frozen? _ ⟨go8, (x3_1 : Int).toNat * 2 + 1, none⟩ = false := hfr7_ 1
        clear hfr7_
        obtain ⟨ce11, hcl11, hM11, hcc11, hfr11⟩ := Kd.R_elem HO_0.out z109 (x2_1 : Int) (of_decide_eq_true (by first | (with_reducible assumption) | assumption)) (by have h_ : (x2_1 : Int) < ((x0_1.length : Int) : Int) := of_decide_eq_true (by first | (with_reducible assumption) | assumption); first | exact h_ | (have e_ := (Kd.R_reads' HO_0.out).1; omega) | simpa using h_)
        obtain rfl := k109_openM hM11
        have HP11 := (Kd.R_seg HO_0.out (x2_1 : Int) (of_decide_eq_true (by first | (with_reducible assumption) | assumption)) (by have h_ : (x2_1 : Int) < ((x0_1.length : Int) : Int) := of_decide_eq_true (by first | (with_reducible assumption) | assumption); first | exact h_ | (have e_ := (Kd.R_reads' HO_0.out).1; omega) | simpa using h_) (seg := [.int .i64 ((rd_T109 x0_1 x3_1).f0), .int .i64 ((rd_T109 x0_1 x3_1).f1)]) (j := 0) hcl11 hcc11 (show 2 ≤ 2 from by decide) (x' := (⟨(rd_T109 x0_1 x3_1).f0, (rd_T109 x0_1 x3_1).f1⟩ : S109)) (k109_mkM _ _ _ (⟨(rd_T109 x0_1 x3_1).f0, (rd_T109 x0_1 x3_1).f1⟩ : S109) ) (fun _ hk => hk)).1
        rw [← Ny103.out] at HP11
        have HQ11 := Aside0.mk HP11
        clear hcl11 hcc11 hfr11 hM11 HP11
        have p9 : 0 ≤ (x3_1 : Int) := of_decide_eq_true (by first | (with_reducible assumption) | assumption)
        have q9 : (x3_1 : Int) < ((x0_1.length : Int) : Int) := of_decide_eq_true (by first | (with_reducible assumption) | assumption)
        obtain ⟨ce9, hcl9, hM9, hcc9, hfr9⟩ := Kd.R_elem HQ11.out z109 (x3_1 : Int) p9 q9
        obtain rfl := k109_openM hM9
        have hx9_0 : World.cell? _ ⟨go8, (x3_1 : Int).toNat * 2, none⟩ = some (.int .i64 ((rd_T109 y103 x3_1).f0)) := hcc9 0 _ rfl
        have hx9_1 : World.cell? _ ⟨go8, (x3_1 : Int).toNat * 2 + 1, none⟩ = some (.int .i64 ((rd_T109 y103 x3_1).f1)) := hcc9 1 _ rfl
        have hf9_0 : World.frozen? _ ⟨go8, (x3_1 : Int).toNat * 2, none⟩ = false := hfr9 0
        have hf9_1 : World.frozen? _ ⟨go8, (x3_1 : Int).toNat * 2 + 1, none⟩ = false := hfr9 1
        clear hcl9 hcc9 hfr9 hM9
        replace p9 := eq_true p9
        replace q9 := eq_true q9
        obtain ⟨ce12, hcl12, hM12, hcc12, hfr12⟩ := Kd.R_elem HQ11.out z109 (x3_1 : Int) (of_decide_eq_true (by first | (with_reducible assumption) | assumption)) (by have h_ : (x3_1 : Int) < ((x0_1.length : Int) : Int) := of_decide_eq_true (by first | (with_reducible assumption) | assumption); first | exact h_ | (have e_ := (Kd.R_reads' HO_0.out).1; omega) | simpa using h_)
        obtain rfl := k109_openM hM12
        have HP12 := (Kd.R_seg HQ11.out (x3_1 : Int) (of_decide_eq_true (by first | (with_reducible assumption) | assumption)) (by have h_ : (x3_1 : Int) < ((x0_1.length : Int) : Int) := of_decide_eq_true (by first | (with_reducible assumption) | assumption); first | exact h_ | (have e_ := (Kd.R_reads' HO_0.out).1; omega) | simpa using h_) (seg := [.int .i64 ((rd_T109 x0_1 x2_1).f0), .int .i64 ((rd_T109 x0_1 x2_1).f1)]) (j := 0) hcl12 hcc12 (show 2 ≤ 2 from by decide) (x' := (⟨(rd_T109 x0_1 x2_1).f0, (rd_T109 x0_1 x2_1).f1⟩ : S109)) (k109_mkM _ _ _ (⟨(rd_T109 x0_1 x2_1).f0, (rd_T109 x0_1 x2_1).f1⟩ : S109) ) (fun _ hk => hk)).1
        rw [← Ny104.out] at HP12
        have HQ12 := Aside0.mk HP12
        clear hcl12 hcc12 hfr12 hM12 HP12
        refine start_ (n := 16) (S := fun w' => w'.cell? ⟨go8, ((x3_1).toNat * 2), none⟩ = some (.int .i64 ((rd_T109 x0_1 x3_1).f0)) ∧ w'.cell? ⟨go8, ((x3_1).toNat * 2) + 1, none⟩ = some (.int .i64 ((rd_T109 x0_1 x3_1).f1)) ∧ w'.cell? ⟨go8, ((x2_1).toNat * 2), none⟩ = some (.int .i64 ((rd_T109 x0_1 x2_1).f0)) ∧ w'.cell? ⟨go8, ((x2_1).toNat * 2) + 1, none⟩ = some (.int .i64 ((rd_T109 x0_1 x2_1).f1))) (ds := [13, 15]) #[false, false, false, false, false, false, false, false, false, false, false, false, false, false, false, false] (by kernel_rfl) rfl rfl ⟨hx101_0, hx101_1, hx102_0, hx102_1⟩ (fun hHeld => ?_); refine with_tabW pairs_Pair_int64_72.tab3 pairs_Pair_int64_72.bits3 (fun HT_ HW_ => ?_)
        generalize wr.drew = w10 at HO_0 HK HB GG8 HQ11 HQ12 hf8_0 hf8_1 hf9_0 hf9_1 hf7_0 hf7_1 hx101_0 hx101_1 hx102_0 hx102_1 hx8_0 hx8_1 hx9_0 hx9_1 hHeld ⊢
        refine pure_ (i := 0) (N := some 14) (v := ?_) (a' := ?_) #[true, false, false, false, false, false, false, false, false, false, false, false, false, false, false, false] rfl rfl (any_of HT_.out (by kernel_rfl)) (fun _ _ _ h => h) (Or.inl ⟨by rfl, ?_⟩) ?_ ?_
        rotate_left
        ·intro w'
         go_simp
         with_reducible rfl
        rotate_left
        ·simp only [Act.put, List.setIfInBounds_toArray, List.set_cons_zero, List.set_cons_succ, i64_w, i32_w]
         rfl
        refine pure_ (i := 1) (N := some 15) (v := ?_) (a' := ?_) #[true, true, false, false, false, false, false, false, false, false, false, false, false, false, false, false] rfl rfl (any_of HT_.out (by kernel_rfl)) (fun _ _ _ h => h) (Or.inl ⟨by rfl, ?_⟩) ?_ ?_
        rotate_left
        ·intro w'
         go_simp
         with_reducible rfl
        rotate_left
        ·simp only [Act.put, List.setIfInBounds_toArray, List.set_cons_zero, List.set_cons_succ, i64_w, i32_w]
         rfl
        refine pure_ (i := 2) (N := some 16) (v := ?_) (a' := ?_) #[true, true, true, false, false, false, false, false, false, false, false, false, false, false, false, false] rfl rfl (any_of HT_.out (by kernel_rfl)) (fun _ _ _ h => h) (Or.inl ⟨by rfl, ?_⟩) ?_ ?_
        rotate_left
        ·intro w'
         go_simp
         with_reducible rfl
        rotate_left
        ·simp only [Act.put, List.setIfInBounds_toArray, List.set_cons_zero, List.set_cons_succ, i64_w, i32_w]
         rfl
        refine pure_ (i := 3) (N := some 17) (v := ?_) (a' := ?_) #[true, true, true, true, false, false, false, false, false, false, false, false, false, false, false, false] rfl rfl (any_of HT_.out (by kernel_rfl)) (fun _ _ _ h => h) (Or.inl ⟨by rfl, ?_⟩) ?_ ?_
        rotate_left
        ·intro w'
         go_simp
         with_reducible rfl
        rotate_left
        ·simp only [Act.put, List.setIfInBounds_toArray, List.set_cons_zero, List.set_cons_succ, i64_w, i32_w]
         rfl
        refine pure_ (i := 4) (N := some 18) (v := ?_) (a' := ?_) #[true, true, true, true, true, false, false, false, false, false, false, false, false, false, false, false] rfl rfl (any_of HT_.out (by kernel_rfl)) (fun _ _ _ h => h) (Or.inl ⟨by rfl, ?_⟩) ?_ ?_
        rotate_left
        ·intro w'
         go_simp
         with_reducible rfl
        rotate_left
        ·simp only [Act.put, List.setIfInBounds_toArray, List.set_cons_zero, List.set_cons_succ, i64_w, i32_w]
         rfl
        refine pure_ (i := 5) (N := some 19) (v := ?_) (a' := ?_) #[true, true, true, true, true, true, false, false, false, false, false, false, false, false, false, false] rfl rfl (any_of HT_.out (by kernel_rfl)) (fun _ _ _ h => h) (Or.inl ⟨by rfl, ?_⟩) ?_ ?_
        rotate_left
        ·intro w'
         go_simp
         with_reducible rfl
        rotate_left
        ·simp only [Act.put, List.setIfInBounds_toArray, List.set_cons_zero, List.set_cons_succ, i64_w, i32_w]
         rfl
        refine pure_ (i := 6) (N := some 20) (v := ?_) (a' := ?_) #[true, true, true, true, true, true, true, false, false, false, false, false, false, false, false, false] rfl rfl (any_of HT_.out (by kernel_rfl)) (fun _ _ _ h => h) (Or.inl ⟨by rfl, ?_⟩) ?_ ?_
        rotate_left
        ·intro w'
         go_simp
         with_reducible rfl
        rotate_left
        ·simp only [Act.put, List.setIfInBounds_toArray, List.set_cons_zero, List.set_cons_succ, i64_w, i32_w]
         rfl
        refine pure_ (i := 8) (N := some 22) (v := ?_) (a' := ?_) #[true, true, true, true, true, true, true, false, true, false, false, false, false, false, false, false] rfl rfl (any_of HT_.out (by kernel_rfl)) (fun _ _ _ h => h) (Or.inl ⟨by rfl, ?_⟩) ?_ ?_
        rotate_left
        ·intro w'
         go_simp
         with_reducible rfl
        rotate_left
        ·simp only [Act.put, List.setIfInBounds_toArray, List.set_cons_zero, List.set_cons_succ, i64_w, i32_w]
         rfl
        refine pure_ (i := 9) (N := some 23) (v := ?_) (a' := ?_) #[true, true, true, true, true, true, true, false, true, true, false, false, false, false, false, false] rfl rfl (any_of HT_.out (by kernel_rfl)) (fun _ _ _ h => h) (Or.inl ⟨by rfl, ?_⟩) ?_ ?_
        rotate_left
        ·intro w'
         go_simp
         with_reducible rfl
        rotate_left
        ·simp only [Act.put, List.setIfInBounds_toArray, List.set_cons_zero, List.set_cons_succ, i64_w, i32_w]
         rfl
        refine pure_ (i := 10) (N := some 24) (v := ?_) (a' := ?_) #[true, true, true, true, true, true, true, false, true, true, true, false, false, false, false, false] rfl rfl (any_of HT_.out (by kernel_rfl)) (fun _ _ _ h => h) (Or.inl ⟨by rfl, ?_⟩) ?_ ?_
        rotate_left
        ·intro w'
         go_simp
         with_reducible rfl
        rotate_left
        ·simp only [Act.put, List.setIfInBounds_toArray, List.set_cons_zero, List.set_cons_succ, i64_w, i32_w]
         rfl
        refine take_ (i := 7) (N := some 21) (v := ?_) (a' := ?_) #[true, true, true, true, true, true, true, true, true, true, true, false, false, false, false, false] rfl rfl (take_ofW HT_.out HW_.out (by kernel_rfl)) (fun _ _ _ h => h) (Or.inl ⟨by rfl, ?_⟩) hHeld ?_ ?_
        rotate_left
        ·rintro w' ⟨s0, s1, s2, s3⟩
         go_simp
         with_reducible rfl
        rotate_left
        ·simp only [Act.put, List.setIfInBounds_toArray, List.set_cons_zero, List.set_cons_succ, i64_w, i32_w]
         rfl
        refine take_ (i := 11) (N := some 25) (v := ?_) (a' := ?_) #[true, true, true, true, true, true, true, true, true, true, true, true, false, false, false, false] rfl rfl (take_ofW HT_.out HW_.out (by kernel_rfl)) (fun _ _ _ h => h) (Or.inl ⟨by rfl, ?_⟩) hHeld ?_ ?_
        rotate_left
        ·rintro w' ⟨s0, s1, s2, s3⟩
         go_simp
         with_reducible rfl
        rotate_left
        ·simp only [Act.put, List.setIfInBounds_toArray, List.set_cons_zero, List.set_cons_succ, i64_w, i32_w]
         rfl
        refine pure_ (i := 12) (N := some 26) (v := ?_) (a' := ?_) #[true, true, true, true, true, true, true, true, true, true, true, true, true, false, false, false] rfl rfl (any_of HT_.out (by kernel_rfl)) (fun _ _ _ h => h) (Or.inl ⟨by rfl, ?_⟩) ?_ ?_
        rotate_left
        ·intro w'
         go_simp
         with_reducible rfl
        rotate_left
        ·simp only [Act.put, List.setIfInBounds_toArray, List.set_cons_zero, List.set_cons_succ, i64_w, i32_w]
         rfl
        refine last_ (i := 13) (N := none) #[true, true, true, true, true, true, true, true, true, true, true, true, true, true, false, false] rfl rfl (one_of HT_.out (by kernel_rfl)) (by decide) (fun K hK => ?_)
        refine skip_ (w1 := ?_) (by rfl) rfl ?_ ?_
        rotate_left
        ·go_simp
         rfl
        refine hK.out _ _ ?_
        clear hK K
        refine pure_ (i := 14) (N := some 27) (v := ?_) (a' := ?_) #[true, true, true, true, true, true, true, true, true, true, true, true, true, true, true, false] rfl rfl (any_of HT_.out (by kernel_rfl)) (fun _ _ _ h => h) (Or.inl ⟨by rfl, ?_⟩) ?_ ?_
        rotate_left
        ·intro w'
         go_simp
         with_reducible rfl
        rotate_left
        ·simp only [Act.put, List.setIfInBounds_toArray, List.set_cons_zero, List.set_cons_succ, i64_w, i32_w]
         rfl
        refine last_ (i := 15) (N := none) #[true, true, true, true, true, true, true, true, true, true, true, true, true, true, true, true] rfl rfl (one_of HT_.out (by kernel_rfl)) (by decide) (fun K hK => ?_)
        refine skip_ (w1 := ?_) (by rfl) rfl ?_ ?_
        rotate_left
        ·go_simp
         rfl
        refine hK.out _ _ ?_
        clear hK K
        refine done_ (done_of HT_.out (by kernel_rfl)) ?_
        try go_wp2
        (try simp only [← hl0_1])
        go_roundg k1
        case measure => have := HK1.out; omega
        case rel => exact ⟨(y104), (wrap64 (x2_1 + 1)), (wrap64 (x3_1 - 1)), (by first | rfl | (simp; done) | (simp [*]; done)), (by first | rfl | (simp; done) | (simp [*]; done)), H', ⟨by have := HK1.out; omega⟩, ⟨by (try simp only [hl0_1]); (with_reducible repeat (first | apply Kd.R_alloc | apply Kd.R_drewN | apply Kd.R_drew)); exact HQ12.out⟩, ⟨by repeat (first | (with_reducible first | exact HK.out | apply Kept.alloc | apply Kept.drewN | apply Kept.drew | refine Kept.setCell ?_ HMgo8.out _ | refine Kept.setCell ?_ HMgo8.out _ | refine Kept.setCell ?_ HMgo8.out _ | refine Kept.setCell ?_ HMgo8.out _) | exact HK.out)⟩, ⟨by repeat (first | (with_reducible first | exact HB.out | apply below_alloc | apply pw_below_drewN | apply below_drew1 | refine below_set ?_ GB8.out | refine below_set ?_ GB8.out | refine below_set ?_ GB8.out | refine below_set ?_ GB8.out) | exact HB.out)⟩⟩
       ·rw [if_neg c7] at H
        exact absurd H (by simp)
      ·rw [if_neg c6] at H
       exact absurd H (by simp)
     ·rw [if_neg c5] at H
      exact absurd H (by simp)
    ·rw [if_neg c4] at H
     exact absurd H (by simp)
   ·rw [if_neg c3] at H
    have c3b0 : decide (x2_1 < x3_1) = false := decide_eq_false c3
    clear c3
    obtain rfl := Option.some.inj H
    go_wp2
    first | go_end0 | ((try simp only [Exit.inBlock, Exit.then]); refine bodyPost_ret (results_none rfl _ _ _) rfl ?_)
    exact ⟨by first | rfl | (simp [errW_none, errW_some] <;> rfl) | (simp [*, errW_none, errW_some] <;> rfl), (by first | exact (by (with_reducible repeat (first | apply Kd.R_alloc | apply Kd.R_drewN | apply Kd.R_drew)); exact HO_0.out) | (simp only [hl0_1]; exact (by (with_reducible repeat (first | apply Kd.R_alloc | apply Kd.R_drewN | apply Kd.R_drew)); exact HO_0.out))), by repeat (first | (with_reducible first | exact HB.out | apply below_alloc | apply pw_below_drewN | apply below_drew1) | exact HB.out), by repeat (first | (with_reducible first | exact HK.out | apply Kept.alloc | apply Kept.drewN | apply Kept.drew) | exact HK.out)⟩
end Go.Proofs.Ytfbjjbbhnmoolaa.P
namespace Go.Proofs.Ytfbjjbbhnmoolaa.P
open Go.RowKit Go.Shelf Go.Proofs.YtfbjjbbhnmoolaaW.PrintWords Go.Proofs.YtfbjjbbhnmoolaaW.PrintLast Go.Proofs.YtfbjjbbhnmoolaaW.PrintMore
attribute [local go_sem] Oper.semAt_some
structure Bk where
  s : Int
  p : Int
  n : Int
  deriving DecidableEq
def encB (b : Bk) : Value := .agg #[.int .i64 b.s, .int .i64 b.p, .int .u64 b.n]
def segW (side : Int) (l : List Pr) : List Bk := (l.filter (fun q : Pr => decide (0 < q.f1))).map (fun q : Pr => ⟨side, q.f0, q.f1⟩)
theorem segW_snoc (side : Int) (l : List Pr) (q : Pr) : segW side (l ++ [q]) = segW side l ++ (if 0 < q.f1 then [⟨side, q.f0, q.f1⟩] else []) := by
  unfold segW
  rw [List.filter_append, List.map_append]
  by_cases h : 0 < q.f1
  · rw [if_pos h, List.filter_cons, if_pos (by simpa using h)]; rfl
  · rw [if_neg h, List.filter_cons, if_neg (by simpa using h)]; rfl
def toldW (h : Hi) : List Bk := if checkR h = 0 then segW 1 (openR h).2.1.reverse ++ ((if h.f2 = 0 then [] else [⟨2, 0, h.f2⟩]) ++ segW 0 (openR h).1) else []
def KeepC (n0 : Nat) (A B : World) : Prop := A.heap.size ≤ B.heap.size ∧ ∀ q cs t fr, n0 ≤ q → A.heap[q]? = some (.cells cs t fr) → B.heap[q]? = some (.cells cs t fr)
theorem KeepC.refl (n0 : Nat) (A : World) : KeepC n0 A A := ⟨Nat.le_refl _, fun _ _ _ _ _ h => h⟩
theorem KeepC.trans {n0 : Nat} {A B C : World} (h : KeepC n0 A B) (k : KeepC n0 B C) : KeepC n0 A C := ⟨Nat.le_trans h.1 k.1, fun q cs t fr h0 h1 => k.2 q cs t fr h0 (h.2 q cs t fr h0 h1)⟩
theorem KeepC.of_below {n0 : Nat} {A B : World} (h : Below A.heap.size A B) : KeepC n0 A B := ⟨h.size, fun q cs t fr _ h1 => (h.block q (Array.getElem?_eq_some_iff.1 h1).1).trans h1⟩
theorem KeepC.put {n0 : Nat} (W : World) (l : Nat) (o o' : Obj) (h : W.heap[l]? = some o) (hc : o.isCells = false) : KeepC n0 W (W.putObj l o') := by
  have hg := grownBy_putObj' W l o'
  refine ⟨hg.size, fun k cs t fr h0 h1 => (hg.block k ((Array.getElem?_eq_some_iff.1 h1).1) (fun e => ?_)).trans h1⟩
  injection e with e
  subst e
  rw [h] at h1
  injection h1 with h1
  subst h1
  cases hc
theorem KeepC.setCell {n0 g i : Nat} (W : World) (hg : g < n0) (u : Value) : KeepC n0 W (W.setCell ⟨g, i, none⟩ u) :=
  ⟨by simp [World.setCell], fun q cs t fr h0 h1 => (Below.heap_setCell W ⟨g, i, none⟩ u q (by show q ≠ g; omega)).trans h1⟩
theorem KeepC.blk {n0 : Nat} {A B : World} (k : KeepC n0 A B) {g : Nat} {cs : Array Value} {t : TypeId} (hg : n0 ≤ g) (h : Blk A g cs t) : Blk B g cs t := k.2 g cs t (0, 0) hg h
def RowW (n0 : Nat) (W : World) (v : Value) (l : List Pr) : Prop := Kd.R kPr 109 W n0 (fun _ => True) v l
theorem RowW.keep {n0 : Nat} {A B : World} {v : Value} {l : List Pr} (h : RowW n0 A v l) (k : KeepC n0 A B) : RowW n0 B v l := by
  have hs : Kd.R kPr 109 A n0 (fun q => v.ownBlock = some q) v l := ⟨fun q hq => hq, h.2.imp_ (fun x cs hx => by rw [k109_openM hx]; exact k109_mkM _ _ _ x)⟩
  refine Kd.R_mono (Kd.R_step hs (fun q hq hlt => ?_)) (fun _ _ => trivial)
  obtain ⟨cells, hc⟩ := Kd.R_typed h q hq
  exact (k.2 q cells 109 (0, 0) (Kd.R_base h q hq) hc).trans hc.symm
theorem yield_wide {m m' : Nat} {P : Program} {l : Nat} {args : Array Value} {W : World} {R : Ending → World → Prop} (h : YieldAt Fence.wide m P l args W R) : YieldAt Fence.wide m' P l args W R := by
  obtain ⟨fn, t, a, b, h1, h2, h3⟩ := h
  exact ⟨fn, t, a, b, h1, h2, fun c cs _ => h3 c cs (room_wide _)⟩
set_option maxRecDepth 100000 in
set_option maxHeartbeats 4000000 in
theorem tell_in (n : Nat) (hn : 1 ≤ n) (L n0 b5 : Nat) (T : List Bk) (side : Int) (v : Value) (l : List Pr) (i0 : Nat) (J Jx : Nat → World → Prop)
    (hT : ∀ j, j < (segW side l).length → T[i0 + j]? = (segW side l)[j]?) (hw : ∀ q ∈ l, i64 q.f1)
    (hJ : ∀ i W W', J i W → W.grownBy W' none → J i W')
    (hY : ∀ i W, J i W → ∀ x, T[i]? = some x → YieldAt Fence.wide (n - 1) Try.prog L #[encB x] W fun e W' =>
      (e = .returned (.bool true) ∧ J (i + 1) W' ∧ KeepC n0 W W') ∨ (e = .returned (.bool false) ∧ Jx (i + 1) W'))
    (W : World) (hb : Blk W b5 #[.func (.yield L) #[] #[]] 121) (h5 : n0 ≤ b5) (hR : RowW n0 W v l) (h0 : J i0 W) :
    CallsIn Fence.wide n Try.prog 74 #[.int .i64 side, v, .pointer (some ⟨b5, 0, none⟩)] W fun e W' =>
      (e = .returned (.bool true) ∧ J (i0 + (segW side l).length) W' ∧ KeepC n0 W W') ∨ (e = .returned (.bool false) ∧ ∃ i, Jx i W') := by
  have hu := Try.underlying109
  obtain ⟨A, c, rfl, hlc, hC⟩ := Kd.R_reads hR
  have hm : l.length ≤ 9223372036854775807 := hC.2.1
  have HT := Aside0.mk hT
  have HW := Aside0.mk hw
  have HJ := Aside0.mk hJ
  have HY := Aside0.mk hY
  have HR := Aside0.mk hR
  have HB := Aside0.mk hb
  have H0 := Aside0.mk h0
  clear hT hw hJ hY hR hb h0 hC
  refine callsIn_of_wp Try.func74 rfl trivial ?_ rfl
  simp only [Try.ntmps74, List.size_toArray, List.length_cons, List.length_nil, Nat.reduceAdd, Nat.reduceSub, Array.replicate_succ, Array.replicate_zero, List.push_toArray, List.append_toArray, List.nil_append, List.cons_append]
  gi_wp2
  gi_loopw [10] (fun s10 wr => ∃ kk : Nat, kk ≤ l.length ∧ s10 = .int .i64 kk ∧ Aside0 (KeepC n0 W wr) ∧ Aside0 (J (i0 + (segW side (l.take kk)).length) wr)) (fun s10 _ => l.length - (intOf s10).toNat)
  case atStart => exact ⟨0, Nat.zero_le _, rfl, ⟨KeepC.refl _ _⟩, ⟨by simpa [segW] using H0.out⟩⟩
  case round =>
    obtain ⟨kk, hkk, rfl, HK, HJ0⟩ := hrel
    clear H0
    by_cases hlt : kk < l.length
    · have hlti : (kk : Int) < (l.length : Int) := by omega
      have HRW := Aside0.mk (HR.out.keep HK.out)
      have hC := (Kd.R_reads' HRW.out).2.2
      obtain ⟨ad, e1, hx0, hx1⟩ := at_T109 hC kk (by omega) (by omega)
      cases e1
      clear hC
      have hrd : rd_T109 l (kk : Int) = l[kk] := rdPr_at hlt
      rw [hrd, Int.toNat_natCast] at hx0 hx1
      have htk := segW_snoc side (l.take kk) l[kk]
      rw [← List.take_succ_eq_append_getElem hlt] at htk
      have hy64 := HW.out l[kk] (List.getElem_mem hlt)
      -- the place of what is told next
      have hnx : 0 < l[kk].f1 → T[i0 + (segW side (l.take kk)).length]? = some ⟨side, l[kk].f0, l[kk].f1⟩ := fun hp => by
        have hd : segW side l = segW side (l.take (kk + 1)) ++ segW side (l.drop (kk + 1)) := by
          conv => lhs; rw [← List.take_append_drop (kk + 1) l]
          unfold segW; rw [List.filter_append, List.map_append]
        rw [htk, if_pos hp] at hd
        rw [HT.out _ (by rw [hd]; simp), hd]
        simp
      have HNX := Aside0.mk hnx
      have HTK := Aside0.mk htk
      generalize l[kk] = y at hx0 hx1 HTK HNX hrd hy64
      clear hrd hnx htk
      have HBW := Aside0.mk (HK.out.blk h5 HB.out)
      by_cases hp : 0 < y.f1
      · have hp' : decide (0 < y.f1) = true := decide_eq_true hp
        have hcv : IntKind.u64.wrap y.f1 = y.f1 := by
          have h_ : IntKind.u64.wrap y.f1 = y.f1 % 18446744073709551616 := rfl
          have h2_ := hy64.2
          rw [h_]; omega
        have HX := Aside0.mk (HNX.out hp)
        rw [if_pos hp] at HTK
        have HJ1 := Aside0.mk (HJ.out _ _ _ HJ0.out (grown_of_below (below_alloc (Below.refl _ wr) (.cells #[.int .i64 y.f0, .int .i64 y.f1] 109)) none))
        have HKA := Aside0.mk (HK.out.trans (KeepC.of_below (below_alloc (Below.refl _ wr) (.cells #[.int .i64 y.f0, .int .i64 y.f1] 109))))
        have hbx := (HBW.out.alloc (.cells #[.int .i64 y.f0, .int .i64 y.f1] 109)).cell 0
        obtain ⟨fn, tmps, assign, body, hy, hRd⟩ := HY.out _ _ HJ1.out _ HX.out
        unfold encB at hy
        have HRR := Aside0.mk hRd
        clear hRd HJ0 HX HNX hp
        gi_wp2
        refine HRR.out.mono ?_
        rintro e W3 (⟨rfl, hJ3, hk3⟩ | ⟨rfl, hJx3⟩)
        · have HJ3 := Aside0.mk hJ3
          have HK3 := Aside0.mk (HKA.out.trans hk3)
          clear hJ3 hk3
          gi_wp2
          go_roundw
          case rel => exact ⟨kk + 1, by omega, by go_num, HK3, ⟨by rw [HTK.out, List.length_append]; exact HJ3.out⟩⟩
          case measure => simp [intOf]; omega
        · have HX := Aside0.mk hJx3
          clear hJx3
          gi_wp2
          go_ret
          exact .inr ⟨rfl, _, HX.out⟩
      · have hp' : decide (0 < y.f1) = false := decide_eq_false hp
        rw [if_neg hp, List.append_nil] at HTK
        have HJ1 := Aside0.mk (HJ.out _ _ _ HJ0.out (grown_of_below (below_alloc (Below.refl _ wr) (.cells #[.int .i64 y.f0, .int .i64 y.f1] 109)) none))
        have HKA := Aside0.mk (HK.out.trans (KeepC.of_below (below_alloc (Below.refl _ wr) (.cells #[.int .i64 y.f0, .int .i64 y.f1] 109))))
        clear HJ0 HNX
        gi_wp2
        refine ⟨fun f h => (by cases h), ?_⟩
        gi_wp2
        go_roundw
        case rel => exact ⟨kk + 1, by omega, by go_num, HKA, ⟨by rw [HTK.out]; exact HJ1.out⟩⟩
        case measure => simp [intOf]; omega
    · have hlti : ¬ (kk : Int) < (l.length : Int) := by omega
      have hk : l.take kk = l := List.take_of_length_le (by omega)
      have HKK := Aside0.mk hk
      clear hk
      gi_wp2
      go_ret
      have hj := HJ0.out
      rw [HKK.out] at hj
      exact .inl ⟨rfl, hj, HK.out⟩
end Go.Proofs.Ytfbjjbbhnmoolaa.P
namespace Go.Proofs.Ytfbjjbbhnmoolaa.P
open Go.RowKit Go.Shelf Go.Proofs.YtfbjjbbhnmoolaaW.PrintWords Go.Proofs.YtfbjjbbhnmoolaaW.PrintLast Go.Proofs.YtfbjjbbhnmoolaaW.PrintMore
theorem SI.V {w : World} {e : Nat} {A : Option Addr} {c : Nat} {l : List Int} (hc : l.length ≤ c) (hr : (Kd.int .i64).C w A l.length l) : Kd.V (Kd.int .i64) e w w.heap.size (fun k_ => (fun k => k < w.heap.size) k_) (.slice A l.length c) l := ⟨_, _, rfl, hc, Kd.C_F (Kd.heap_int .i64) hr⟩
theorem SI.of_V {e : Nat} {w : World} {base : Nat} {ok : Nat → Prop} {v : Value} {l : List Int} (h : Kd.V (Kd.int .i64) e w base ok v l) : SI (Kd.int .i64) w v l := by
  obtain ⟨A, c, rfl, hc, hf⟩ := h
  exact .of (hf w (fun _ _ _ => rfl)) hc
theorem refHead_c (s z : Int) (w : World) : Calls Try.prog 67 #[.int .i64 s, .int .u64 z] w fun e w' => e = .returned (.int .i64 (if s < -4 ∨ s > 8 then 21 else if ¬ z < 9218868437227405312 then 11 else 0)) ∧ Below w.heap.size w w' :=
  (tidepoleref09_Head.calls 1 s z _ w (refHead_eq s z 1 (by omega))).mono fun e w1 h => ⟨h.1, h.2.below⟩
theorem refSide_c (l : List Sp) (d : List Int) (hl : wfSps l) (hd : i64s d) (hm : d.length < 4398046511104) (w : World) (u v : Value) (hu : SI kRsp w u (l.map toR)) (hv : SI (Kd.int .i64) w v d) : Calls Try.prog 18 #[u, v] w fun e w' =>
    ∃ v0 v1 : Value, e = .returned (.tuple #[v0, v1, .int .i64 (sideRef l d).2.2]) ∧ SI (Kd.int .i64) w' v0 (sideRef l d).1 ∧ SI (Kd.int .i64) w' v1 (sideRef l d).2.1 ∧ Below w.heap.size w w' := by
  obtain ⟨A, c, rfl, hc, hr⟩ := hu
  obtain ⟨D, g, rfl, hg, hs⟩ := hv
  refine (tidepoleref09_Side.calls (5120001 + d.length) A c _ D g d _ _ _ w hr hc hs hg (refSide_eq l d hl hd hm _ (by omega))).mono ?_
  rintro e w1 ⟨v0, v1, rfl, h0, h1, hb⟩
  exact ⟨v0, v1, rfl, .of_R h0, .of_R h1, hb⟩
theorem refFits_c (zc ct sm : Int) (p n : List Pr) (hz : u64 zc) (hc : u64 ct) (hs : u64 sm) (hp : ∀ x ∈ p, 0 ≤ x.f1 ∧ x.f1 ≤ 9223372036854775807) (hn : ∀ x ∈ n, 0 ≤ x.f1 ∧ x.f1 ≤ 9223372036854775807) (hpm : p.length < 17592186044416) (hnm : n.length < 17592186044416) (w : World) (u v : Value) (hu : SI (Kd.int .i64) w u (p.map (·.f1))) (hv : SI (Kd.int .i64) w v (n.map (·.f1))) :
    Calls Try.prog 68 #[.int .u64 zc, .int .u64 ct, .int .u64 sm, u, v] w fun e w' => e = .returned (.int .i64 (if fits zc ct sm p n = true then 0 else 22)) ∧ Below w.heap.size w w' := by
  obtain ⟨A, c, rfl, hc1, hr⟩ := hu
  obtain ⟨D, g, rfl, hg, hs1⟩ := hv
  exact tidepoleref09_Fits.calls (p.length + n.length + 11) zc ct sm _ A c _ _ D g _ _ w (SI.V hc1 hr) (SI.V hg hs1) (refFits_eq zc ct sm p n hz hc hs hp hn hpm hnm _ (by omega))
def headE (h : Hi) : Int := if h.f0 < -4 ∨ h.f0 > 8 then 21 else if ¬ h.f1 < 9218868437227405312 then 11 else 0
theorem checkR_eq (h : Hi) : checkR h = if headE h ≠ 0 then headE h else if (sideRes h.f5 h.f7).2 ≠ 0 then (sideRes h.f5 h.f7).2 else if (sideRes h.f6 h.f8).2 ≠ 0 then (sideRes h.f6 h.f8).2 else if fits h.f2 h.f3 h.f4 (sideRes h.f5 h.f7).1 (sideRes h.f6 h.f8).1 = true then 0 else 22 := by
  unfold checkR openR openRes headE
  by_cases c1 : h.f0 < -4 ∨ h.f0 > 8
  · rw [if_pos c1, if_pos c1, if_pos (by omega)]
  rw [if_neg c1, if_neg c1]
  by_cases c2 : ¬ h.f1 < 9218868437227405312
  · rw [if_pos c2, if_pos c2, if_pos (by omega)]
  rw [if_neg c2, if_neg c2, if_neg (c := (0 : Int) ≠ 0) (by omega)]
  by_cases c3 : (sideRes h.f5 h.f7).2 ≠ 0
  · rw [if_pos c3, if_pos c3]
  rw [if_neg c3, if_neg c3]
  by_cases c4 : (sideRes h.f6 h.f8).2 ≠ 0
  · rw [if_pos c4, if_pos c4]
  rw [if_neg c4, if_neg c4]
  by_cases c5 : fits h.f2 h.f3 h.f4 (sideRes h.f5 h.f7).1 (sideRes h.f6 h.f8).1 = true
  · rw [if_pos c5, if_pos c5]
  · rw [if_neg c5, if_neg c5]
theorem openR_right {h : Hi} (hc : checkR h = 0) : openR h = ((sideRes h.f5 h.f7).1, (sideRes h.f6 h.f8).1, 0) := by
  unfold checkR openR openRes at *
  split at hc
  · cases hc
  split at hc
  · cases hc
  split at hc
  · rename_i h3; exact absurd hc h3
  split at hc
  · rename_i h3; exact absurd hc h3
  split at hc
  · rename_i h1 h2 h3 h4 h5; rw [if_neg h1, if_neg h2, if_neg h3, if_neg h4, if_pos h5]
  · cases hc
set_option maxHeartbeats 8000000 in
set_option maxRecDepth 100000 in
theorem refCheck_c (h : Hi) (hw : wfH h) (w : World) (v : Value) (hv : HR w v h) : Calls Try.prog 16 #[v] w fun e w' => e = .returned (.int .i64 (checkR h)) ∧ Below w.heap.size w w' := by
  have hu := Try.underlying45
  have ch := refHead_c h.f0 h.f1
  rw [show (if h.f0 < -4 ∨ h.f0 > 8 then (21 : Int) else if ¬ h.f1 < 9218868437227405312 then 11 else 0) = headE h from rfl] at ch
  obtain ⟨w0, w1, w2, w3, w4, w5, w6, w7, w8, w9, w10⟩ := hw
  have s5 := refSide_c h.f5 h.f7 w5 w7 w9
  have s6 := refSide_c h.f6 h.f8 w6 w8 w10
  have r5 := sideRes_row (l := h.f5) w7
  have r6 := sideRes_row (l := h.f6) w8
  have cf := refFits_c h.f2 h.f3 h.f4 (sideRes h.f5 h.f7).1 (sideRes h.f6 h.f8).1 w2 w3 w4 (fun x hx => (r5.cnt x hx).2) (fun x hx => (r6.cnt x hx).2) (by have := r5.len; omega) (by have := r6.len; omega)
  have HC := checkR_eq h
  clear w0 w1 w2 w3 w4 w5 w6 w7 w8 w9 w10 r5 r6
  unfold sideRef at s5 s6
  generalize fits h.f2 h.f3 h.f4 (sideRes h.f5 h.f7).1 (sideRes h.f6 h.f8).1 = ft at *
  generalize sideRes h.f5 h.f7 = q5 at *
  generalize sideRes h.f6 h.f8 = q6 at *
  generalize headE h = he at *
  generalize checkR h = r at *
  obtain ⟨p, e5⟩ := q5
  obtain ⟨n, e6⟩ := q6
  simp only at s5 s6 HC
  have CH := Aside0.mk ch
  have C5 := Aside0.mk s5
  have C6 := Aside0.mk s6
  have CF := Aside0.mk cf
  clear ch s5 s6 cf
  obtain ⟨A5, c5, A6, c6, A7, c7, A8, c8, e, h5, h6, h7, h8⟩ := hv.open_
  subst e
  have B := Aside0.mk (below_alloc (Below.refl w.heap.size w) (.cells #[.int .i64 h.f0, .int .u64 h.f1, .int .u64 h.f2, .int .u64 h.f3, .int .u64 h.f4, .slice A5 h.f5.length c5, .slice A6 h.f6.length c6, .slice A7 h.f7.length c7, .slice A8 h.f8.length c8] 45))
  have X := Aside0.mk (Blk.new w #[.int .i64 h.f0, .int .u64 h.f1, .int .u64 h.f2, .int .u64 h.f3, .int .u64 h.f4, .slice A5 h.f5.length c5, .slice A6 h.f6.length c6, .slice A7 h.f7.length c7, .slice A8 h.f8.length c8] 45)
  have hx := fun i => X.out.cell i
  have H5 := Aside0.mk (h5.below B.out)
  have H6 := Aside0.mk (h6.below B.out)
  have H7 := Aside0.mk (h7.below B.out)
  have H8 := Aside0.mk (h8.below B.out)
  clear hv h5 h6 h7 h8
  by_cases c1 : he = 0
  rotate_left
  · rw [if_pos c1] at HC
    subst HC
    have d1 : (r != 0) = true := bne_iff_ne.2 c1
    clear c1
    go_enter Try.func16, Try.ntmps16
    go_wp2_with (first | (go_at_call 67; (with_reducible refine (CH.out _).mono ?_); rintro e W ⟨rfl, hb⟩; replace B := Aside0.mk (below_then B.out B.out.size hb); replace H5 := Aside0.mk (H5.out.below hb); replace H6 := Aside0.mk (H6.out.below hb); replace H7 := Aside0.mk (H7.out.below hb); replace H8 := Aside0.mk (H8.out.below hb); replace X := Aside0.mk (X.out.below hb); replace hx := fun i => X.out.cell i; clear  hb))
    go_ret
    exact ⟨rfl, B.out⟩
  subst c1
  rw [if_neg (by simp)] at HC
  by_cases c2 : e5 = 0
  rotate_left
  · rw [if_pos c2] at HC
    subst HC
    have d2 : (r != 0) = true := bne_iff_ne.2 c2
    clear c2
    go_enter Try.func16, Try.ntmps16
    go_wp2_with (first | (go_at_call 67; (with_reducible refine (CH.out _).mono ?_); rintro e W ⟨rfl, hb⟩; replace B := Aside0.mk (below_then B.out B.out.size hb); replace H5 := Aside0.mk (H5.out.below hb); replace H6 := Aside0.mk (H6.out.below hb); replace H7 := Aside0.mk (H7.out.below hb); replace H8 := Aside0.mk (H8.out.below hb); replace X := Aside0.mk (X.out.below hb); replace hx := fun i => X.out.cell i; clear  hb) | (go_at_call 18; (with_reducible refine (C5.out _ _ _ H5.out H7.out).mono ?_); rintro e W ⟨v0, v1, rfl, h0, h1, hb⟩; replace B := Aside0.mk (below_then B.out B.out.size hb); replace H5 := Aside0.mk (H5.out.below hb); replace H6 := Aside0.mk (H6.out.below hb); replace H7 := Aside0.mk (H7.out.below hb); replace H8 := Aside0.mk (H8.out.below hb); replace X := Aside0.mk (X.out.below hb); replace hx := fun i => X.out.cell i; have P5 := Aside0.mk h0; have V5 := Aside0.mk h1; clear h0 h1 hb))
    go_ret
    exact ⟨rfl, B.out⟩
  subst c2
  rw [if_neg (by simp)] at HC
  by_cases c3 : e6 = 0
  rotate_left
  · rw [if_pos c3] at HC
    subst HC
    have d3 : (r != 0) = true := bne_iff_ne.2 c3
    clear c3
    go_enter Try.func16, Try.ntmps16
    go_wp2_with (first | (go_at_call 67; (with_reducible refine (CH.out _).mono ?_); rintro e W ⟨rfl, hb⟩; replace B := Aside0.mk (below_then B.out B.out.size hb); replace H5 := Aside0.mk (H5.out.below hb); replace H6 := Aside0.mk (H6.out.below hb); replace H7 := Aside0.mk (H7.out.below hb); replace H8 := Aside0.mk (H8.out.below hb); replace X := Aside0.mk (X.out.below hb); replace hx := fun i => X.out.cell i; clear  hb) | (go_at_call 18; (with_reducible refine (C5.out _ _ _ H5.out H7.out).mono ?_); rintro e W ⟨v0, v1, rfl, h0, h1, hb⟩; replace B := Aside0.mk (below_then B.out B.out.size hb); replace H5 := Aside0.mk (H5.out.below hb); replace H6 := Aside0.mk (H6.out.below hb); replace H7 := Aside0.mk (H7.out.below hb); replace H8 := Aside0.mk (H8.out.below hb); replace X := Aside0.mk (X.out.below hb); replace hx := fun i => X.out.cell i; have P5 := Aside0.mk h0; have V5 := Aside0.mk h1; clear h0 h1 hb) | (go_at_call 18; (with_reducible refine (C6.out _ _ _ H6.out H8.out).mono ?_); rintro e W ⟨v2, v3, rfl, h0, h1, hb⟩; replace B := Aside0.mk (below_then B.out B.out.size hb); replace H5 := Aside0.mk (H5.out.below hb); replace H6 := Aside0.mk (H6.out.below hb); replace H7 := Aside0.mk (H7.out.below hb); replace H8 := Aside0.mk (H8.out.below hb); replace P5 := Aside0.mk (P5.out.below hb); replace V5 := Aside0.mk (V5.out.below hb); replace X := Aside0.mk (X.out.below hb); replace hx := fun i => X.out.cell i; have P6 := Aside0.mk h0; have V6 := Aside0.mk h1; clear h0 h1 hb))
    go_ret
    exact ⟨rfl, B.out⟩
  subst c3
  rw [if_neg (by simp)] at HC
  rw [← HC] at CF
  clear HC
  go_enter Try.func16, Try.ntmps16
  go_wp2_with (first | (go_at_call 67; (with_reducible refine (CH.out _).mono ?_); rintro e W ⟨rfl, hb⟩; replace B := Aside0.mk (below_then B.out B.out.size hb); replace H5 := Aside0.mk (H5.out.below hb); replace H6 := Aside0.mk (H6.out.below hb); replace H7 := Aside0.mk (H7.out.below hb); replace H8 := Aside0.mk (H8.out.below hb); replace X := Aside0.mk (X.out.below hb); replace hx := fun i => X.out.cell i; clear  hb) | (go_at_call 18; (with_reducible refine (C5.out _ _ _ H5.out H7.out).mono ?_); rintro e W ⟨v0, v1, rfl, h0, h1, hb⟩; replace B := Aside0.mk (below_then B.out B.out.size hb); replace H5 := Aside0.mk (H5.out.below hb); replace H6 := Aside0.mk (H6.out.below hb); replace H7 := Aside0.mk (H7.out.below hb); replace H8 := Aside0.mk (H8.out.below hb); replace X := Aside0.mk (X.out.below hb); replace hx := fun i => X.out.cell i; have P5 := Aside0.mk h0; have V5 := Aside0.mk h1; clear h0 h1 hb) | (go_at_call 18; (with_reducible refine (C6.out _ _ _ H6.out H8.out).mono ?_); rintro e W ⟨v2, v3, rfl, h0, h1, hb⟩; replace B := Aside0.mk (below_then B.out B.out.size hb); replace H5 := Aside0.mk (H5.out.below hb); replace H6 := Aside0.mk (H6.out.below hb); replace H7 := Aside0.mk (H7.out.below hb); replace H8 := Aside0.mk (H8.out.below hb); replace P5 := Aside0.mk (P5.out.below hb); replace V5 := Aside0.mk (V5.out.below hb); replace X := Aside0.mk (X.out.below hb); replace hx := fun i => X.out.cell i; have P6 := Aside0.mk h0; have V6 := Aside0.mk h1; clear h0 h1 hb) | (go_at_call 68; (with_reducible refine (CF.out _ _ _ V5.out V6.out).mono ?_); rintro e W ⟨rfl, hb⟩; replace B := Aside0.mk (below_then B.out B.out.size hb); replace H5 := Aside0.mk (H5.out.below hb); replace H6 := Aside0.mk (H6.out.below hb); replace H7 := Aside0.mk (H7.out.below hb); replace H8 := Aside0.mk (H8.out.below hb); replace P5 := Aside0.mk (P5.out.below hb); replace V5 := Aside0.mk (V5.out.below hb); replace P6 := Aside0.mk (P6.out.below hb); replace V6 := Aside0.mk (V6.out.below hb); replace X := Aside0.mk (X.out.below hb); replace hx := fun i => X.out.cell i; clear  hb))
  go_ret
  exact ⟨rfl, B.out⟩
end Go.Proofs.Ytfbjjbbhnmoolaa.P
namespace Go.Proofs.Ytfbjjbbhnmoolaa.P
open Go.RowKit Go.Proofs.YtfbjjbbhnmoolaaW.PrintWords Go.Proofs.YtfbjjbbhnmoolaaW.PrintLast Go.Proofs.YtfbjjbbhnmoolaaW.PrintMore
theorem side_bounds {l : List Sp} {d : List Int} (h0 : (sideRes l d).2 = 0) : (∀ p ∈ (sideRes l d).1, -1048576 ≤ p.f0 ∧ p.f0 ≤ 1048576) ∧ (sideRes l d).1.length = d.length ∧ (sideRes l d).1.map (·.f0) = plN 0 l ∧ spCheck l = 0 := by
  unfold sideRes at h0 ⊢
  by_cases c1 : spCheck l = 0
  rotate_left
  · rw [if_neg c1] at h0; exact absurd h0 c1
  rw [if_pos c1] at h0 ⊢
  by_cases c2 : cntN l = d.length
  rotate_left
  · rw [if_neg c2] at h0; cases h0
  rw [if_pos c2] at h0 ⊢
  cases hs : sumsFrom 0 d with
  | none => rw [hs] at h0; cases h0
  | some c =>
    rw [hs] at h0
    simp only at h0 ⊢
    by_cases c3 : c.any (fun x => decide (x < 0)) = true
    · rw [if_pos c3] at h0; cases h0
    rw [if_neg c3]
    have hr := rises_of_right c1
    have hpl := plN_length l 0 (fun s hs => (spRight_pos l _ _ _ (spCheck_zero c1).2 s hs).1)
    have hc := sumsFrom_length d 0 c hs
    have hz := zipL (plN 0 l) c (by omega)
    refine ⟨fun y hy => ?_, by simp; omega, hz.1, c1⟩
    have : y.f0 ∈ plN 0 l := by
      obtain ⟨i, hi, rfl⟩ := List.mem_iff_getElem.1 hy
      simp only [List.getElem_zipWith]; exact List.getElem_mem _
    exact rises_i64 hr _ this
theorem checkR_zero {h : Hi} (hc : checkR h = 0) : headE h = 0 ∧ (sideRes h.f5 h.f7).2 = 0 ∧ (sideRes h.f6 h.f8).2 = 0 ∧ fits h.f2 h.f3 h.f4 (sideRes h.f5 h.f7).1 (sideRes h.f6 h.f8).1 = true := by
  rw [checkR_eq] at hc
  by_cases c1 : headE h = 0
  rotate_left
  · rw [if_pos c1] at hc; exact absurd hc c1
  rw [if_neg (by simp [c1])] at hc
  by_cases c2 : (sideRes h.f5 h.f7).2 = 0
  rotate_left
  · rw [if_pos c2] at hc; exact absurd hc c2
  rw [if_neg (by simp [c2])] at hc
  by_cases c3 : (sideRes h.f6 h.f8).2 = 0
  rotate_left
  · rw [if_pos c3] at hc; exact absurd hc c3
  rw [if_neg (by simp [c3])] at hc
  by_cases c4 : fits h.f2 h.f3 h.f4 (sideRes h.f5 h.f7).1 (sideRes h.f6 h.f8).1 = true
  · exact ⟨c1, c2, c3, c4⟩
  · rw [if_neg c4] at hc; cases hc
end Go.Proofs.Ytfbjjbbhnmoolaa.P
namespace Go.Proofs.Ytfbjjbbhnmoolaa.P
open Go.RowKit Go.Shelf Go.Proofs.YtfbjjbbhnmoolaaW.PrintWords Go.Proofs.YtfbjjbbhnmoolaaW.PrintLast Go.Proofs.YtfbjjbbhnmoolaaW.PrintMore
attribute [local go_sem] Oper.semAt_some
structure HoldsW (n0 bE bN bH bP : Nat) (h : Hi) (W : World) : Prop where
  ge : n0 ≤ bE ∧ n0 ≤ bN ∧ n0 ≤ bH ∧ n0 ≤ bP
  e : Blk W bE #[.int .i64 (checkR h)] 32
  n : ∃ v, Blk W bN #[v] 90 ∧ RowW n0 W v (openR h).2.1.reverse
  hh : ∃ v5 v6 v7 v8, Blk W bH #[.int .i64 h.f0, .int .u64 h.f1, .int .u64 h.f2, .int .u64 h.f3, .int .u64 h.f4, v5, v6, v7, v8] 26
  p : ∃ v, Blk W bP #[v] 90 ∧ RowW n0 W v (openR h).1
theorem HoldsW.keep {n0 bE bN bH bP : Nat} {h : Hi} {A B : World} (x : HoldsW n0 bE bN bH bP h A) (k : KeepC n0 A B) : HoldsW n0 bE bN bH bP h B := by
  obtain ⟨g, e, ⟨v, n1, n2⟩, ⟨v5, v6, v7, v8, hb⟩, ⟨u, p1, p2⟩⟩ := x
  exact ⟨g, k.blk g.1 e, ⟨v, k.blk g.2.1 n1, n2.keep k⟩, ⟨v5, v6, v7, v8, k.blk g.2.2.1 hb⟩, ⟨u, k.blk g.2.2.2 p1, p2.keep k⟩⟩
set_option maxRecDepth 100000 in
set_option maxHeartbeats 4000000 in
theorem walk1_in (n : Nat) (hn : 2 ≤ n) (L n0 bE bN bH bP : Nat) (h : Hi) (hwf : wfH h) (J Jx : Nat → World → Prop)
    (hJ : ∀ i W W', J i W → W.grownBy W' none → J i W')
    (hY : ∀ i W, J i W → ∀ x, (toldW h)[i]? = some x → YieldAt Fence.wide (n - 1) Try.prog L #[encB x] W fun e W' =>
      (e = .returned (.bool true) ∧ J (i + 1) W' ∧ KeepC n0 W W') ∨ (e = .returned (.bool false) ∧ Jx (i + 1) W'))
    (W : World) (hn0 : n0 ≤ W.heap.size) (hS : HoldsW n0 bE bN bH bP h W) (h0 : J 0 W) :
    CallsIn Fence.wide n Try.prog 73 #[.func (.yield L) #[] #[], .pointer (some ⟨bE, 0, none⟩), .pointer (some ⟨bN, 0, none⟩), .pointer (some ⟨bH, 0, none⟩), .pointer (some ⟨bP, 0, none⟩)] W fun e W' =>
      (∃ v, e = .returned v) ∧ (J (toldW h).length W' ∨ ∃ i, Jx i W') := by
  have hud := Try.underlying26
  have hbx := (Blk.new W #[.func (.yield L) #[] #[]] 121)
  have hal := below_alloc (Below.refl W.heap.size W) (.cells #[.func (.yield L) #[] #[]] 121)
  have HS := Aside0.mk (hS.keep (KeepC.of_below hal))
  have H0 := Aside0.mk (hJ _ _ _ h0 (grown_of_below hal none))
  obtain ⟨-, hce, ⟨vN, hcn, hrn⟩, ⟨v5, v6, v7, v8, hch⟩, ⟨vP, hcp, hrp⟩⟩ := HS.out
  have HB5 := Aside0.mk hbx
  have HJ := Aside0.mk hJ
  have HY := Aside0.mk hY
  have HRN := Aside0.mk hrn
  have HRP := Aside0.mk hrp
  have hrow := openR_row hwf
  have ce0 := hce.cell 0
  have cn0 := hcn.cell 0
  have ch0 := fun i => hch.cell i
  have cp0 := hcp.cell 0
  clear hS h0 hJ hY hbx hal hce hcn hch hcp hrn hrp
  refine callsIn_of_wp Try.func73 rfl trivial ?_ rfl
  simp only [Try.ntmps73, List.size_toArray, List.length_cons, List.length_nil, Nat.reduceAdd, Nat.reduceSub, Array.replicate_succ, Array.replicate_zero, List.push_toArray, List.append_toArray, List.nil_append, List.cons_append]
  by_cases hc : checkR h = 0
  · have ht : toldW h = segW 1 (openR h).2.1.reverse ++ ((if h.f2 = 0 then [] else [⟨2, 0, h.f2⟩]) ++ segW 0 (openR h).1) := by unfold toldW; rw [if_pos hc]
    rw [hc] at ce0
    have hw1 : ∀ q ∈ (openR h).2.1.reverse, i64 q.f1 := fun q hq => by have := hrow.2.cnt q (List.mem_reverse.1 hq); exact ⟨by omega, by omega⟩
    have hw0 : ∀ q ∈ (openR h).1, i64 q.f1 := fun q hq => by have := hrow.1.cnt q hq; exact ⟨by omega, by omega⟩
    generalize hrn_ : (openR h).2.1.reverse = rn at *
    generalize hrp_ : (openR h).1 = rp at *
    have HRPE := Aside0.mk hrp_
    clear hrn_ hrp_
    have t1 : ∀ j, j < (segW 1 rn).length → (toldW h)[0 + j]? = (segW 1 rn)[j]? := fun j hj => by rw [ht, Nat.zero_add, List.getElem?_append_left hj]
    have tell1 := tell_in (n - 1) (by omega) L n0 W.heap.size (toldW h) 1 vN rn 0 J Jx t1 hw1 HJ.out (fun i W hi x hx => yield_wide (HY.out i W hi x hx)) _ HB5.out hn0 HRN.out H0.out
    have HT1 := Aside0.mk tell1
    have HTT := Aside0.mk ht
    clear tell1 t1 ht hw1 H0 HRN
    gi_wp2
    (repeat (with_reducible refine And.intro (by with_unfolding_all (first | exact trivial | exact (fun f h => (by cases h)) | exact (fun _ => (by omega)))) ?_))
    refine HT1.out.mono ?_
    rintro e W1_ (⟨rfl, hj, hk⟩ | ⟨rfl, i, hx⟩)
    rotate_left
    · have HX := Aside0.mk hx
      clear hx
      gi_wp2
      iterate 4 ((try (all_goals (first | (rename_i hu1_ hu2_ hu3_ hu4_ hu5_ hu6_ hu7_ hu8_ hu9_; (first | (injection hu1_ with hu1_; cases hu1_; done) | (injection hu2_ with hu2_; cases hu2_; done) | (injection hu3_ with hu3_; cases hu3_; done))) | skip))); (try (all_goals (try ((repeat (with_reducible refine And.intro (by with_unfolding_all (first | exact trivial | exact (fun f h => (by cases h)) | exact (fun _ => (by omega)))) ?_)); gi_wp2)))))
      all_goals (first | (refine bodyPost_ret (results_none rfl _ _ _) rfl ?_) | go_end0)
      all_goals exact ⟨⟨_, rfl⟩, .inr ⟨_, HX.out⟩⟩
    have HS1 := Aside0.mk (HS.out.keep hk)
    have HB1 := Aside0.mk (hk.blk hn0 HB5.out)
    have HJ1 := Aside0.mk hj
    obtain ⟨-, -, -, ⟨w5, w6, w7, w8, hch1⟩, ⟨vQ, hcp1, hrq1⟩⟩ := HS1.out
    rw [HRPE.out] at hrq1
    have HR1 := Aside0.mk hrq1
    have ch1 := fun i => hch1.cell i
    have cp1 := hcp1.cell 0
    have cb1 := HB1.out.cell 0
    clear hk hj hch1 hcp1 hrq1 ch0 cp0 cn0 ce0
    by_cases hz : h.f2 = 0
    · have hz' : (h.f2 == 0) = true := beq_iff_eq.2 hz
      have t0 : ∀ j, j < (segW 0 rp).length → (toldW h)[0 + (segW 1 rn).length + j]? = (segW 0 rp)[j]? := fun j hj => by rw [HTT.out, if_pos hz, Nat.zero_add, List.nil_append, List.getElem?_append_right (by omega)]; congr 1; omega
      have tell0 := tell_in (n - 1) (by omega) L n0 W.heap.size (toldW h) 0 vQ rp _ J Jx t0 hw0 HJ.out (fun i W hi x hx => yield_wide (HY.out i W hi x hx)) _ HB1.out hn0 HR1.out HJ1.out
      have HT0 := Aside0.mk tell0
      have HL := Aside0.mk (show (toldW h).length = 0 + (segW 1 rn).length + (segW 0 rp).length by rw [HTT.out, if_pos hz]; simp)
      clear tell0 t0 hw0 hz
      gi_wp2
      (repeat (with_reducible refine And.intro (by with_unfolding_all (first | exact trivial | exact (fun f h => (by cases h)) | exact (fun _ => (by omega)))) ?_))
      (try gi_wp2)
      (repeat (with_reducible refine And.intro (by with_unfolding_all (first | exact trivial | exact (fun f h => (by cases h)) | exact (fun _ => (by omega)))) ?_))
      refine HT0.out.mono ?_
      rintro e W2_ (⟨rfl, hj, hk⟩ | ⟨rfl, i, hx⟩)
      · have HX := Aside0.mk hj
        clear hj hk
        gi_wp2
        iterate 4 ((try (all_goals (first | (rename_i hu1_ hu2_ hu3_ hu4_ hu5_ hu6_ hu7_ hu8_ hu9_; (first | (injection hu1_ with hu1_; cases hu1_; done) | (injection hu2_ with hu2_; cases hu2_; done) | (injection hu3_ with hu3_; cases hu3_; done))) | skip))); (try (all_goals (try ((repeat (with_reducible refine And.intro (by with_unfolding_all (first | exact trivial | exact (fun f h => (by cases h)) | exact (fun _ => (by omega)))) ?_)); gi_wp2)))))
        all_goals (first | (refine bodyPost_ret (results_none rfl _ _ _) rfl ?_) | go_end0)
        all_goals exact ⟨⟨_, rfl⟩, .inl (by rw [HL.out]; exact HX.out)⟩
      · have HX := Aside0.mk hx
        clear hx
        gi_wp2
        iterate 4 ((try (all_goals (first | (rename_i hu1_ hu2_ hu3_ hu4_ hu5_ hu6_ hu7_ hu8_ hu9_; (first | (injection hu1_ with hu1_; cases hu1_; done) | (injection hu2_ with hu2_; cases hu2_; done) | (injection hu3_ with hu3_; cases hu3_; done))) | skip))); (try (all_goals (try ((repeat (with_reducible refine And.intro (by with_unfolding_all (first | exact trivial | exact (fun f h => (by cases h)) | exact (fun _ => (by omega)))) ?_)); gi_wp2)))))
        all_goals (first | (refine bodyPost_ret (results_none rfl _ _ _) rfl ?_) | go_end0)
        all_goals exact ⟨⟨_, rfl⟩, .inr ⟨_, HX.out⟩⟩
    · have hz' : (h.f2 == 0) = false := beq_eq_false_iff_ne.2 hz
      have hx2 : (toldW h)[0 + (segW 1 rn).length]? = some ⟨2, 0, h.f2⟩ := by rw [HTT.out, if_neg hz, Nat.zero_add, List.getElem?_append_right (by omega)]; simp
      obtain ⟨fn, tmps, assign, body, hy, hRd⟩ := HY.out _ _ HJ1.out _ hx2
      unfold encB at hy
      have HRR := Aside0.mk hRd
      have t0 : ∀ j, j < (segW 0 rp).length → (toldW h)[0 + (segW 1 rn).length + 1 + j]? = (segW 0 rp)[j]? := fun j hj => by
        rw [HTT.out, if_neg hz, Nat.zero_add, List.getElem?_append_right (by omega), List.getElem?_append_right (by simp; omega)]
        congr 1; simp; omega
      have HT0_ := Aside0.mk t0
      have HL := Aside0.mk (show (toldW h).length = 0 + (segW 1 rn).length + 1 + (segW 0 rp).length by rw [HTT.out, if_neg hz]; simp; omega)
      clear hRd t0 hx2 hz
      gi_wp2
      (repeat (with_reducible refine And.intro (by with_unfolding_all (first | exact trivial | exact (fun f h => (by cases h)) | exact (fun _ => (by omega)))) ?_))
      refine HRR.out.mono ?_
      rintro e W2_ (⟨rfl, hj, hk⟩ | ⟨rfl, hx⟩)
      rotate_left
      · have HX := Aside0.mk hx
        clear hx
        gi_wp2
        iterate 4 ((try (all_goals (first | (rename_i hu1_ hu2_ hu3_ hu4_ hu5_ hu6_ hu7_ hu8_ hu9_; (first | (injection hu1_ with hu1_; cases hu1_; done) | (injection hu2_ with hu2_; cases hu2_; done) | (injection hu3_ with hu3_; cases hu3_; done))) | skip))); (try (all_goals (try ((repeat (with_reducible refine And.intro (by with_unfolding_all (first | exact trivial | exact (fun f h => (by cases h)) | exact (fun _ => (by omega)))) ?_)); gi_wp2)))))
        all_goals (first | (refine bodyPost_ret (results_none rfl _ _ _) rfl ?_) | go_end0)
        all_goals exact ⟨⟨_, rfl⟩, .inr ⟨_, HX.out⟩⟩
      have HS2 := Aside0.mk (HS1.out.keep hk)
      have HB2 := Aside0.mk (hk.blk hn0 HB1.out)
      have HJ2 := Aside0.mk hj
      obtain ⟨-, -, -, -, ⟨vS, hcp2, hrq2⟩⟩ := HS2.out
      have cp2 := hcp2.cell 0
      rw [HRPE.out] at hrq2
      have HR2 := Aside0.mk hrq2
      have tell0 := tell_in (n - 1) (by omega) L n0 W.heap.size (toldW h) 0 vS rp _ J Jx HT0_.out hw0 HJ.out (fun i W hi x hx => yield_wide (HY.out i W hi x hx)) _ HB2.out hn0 HR2.out HJ2.out
      have HT0 := Aside0.mk tell0
      clear tell0 hw0 hk hj ch1 cp1 cb1 hcp2 hrq2
      gi_wp2
      (repeat (with_reducible refine And.intro (by with_unfolding_all (first | exact trivial | exact (fun f h => (by cases h)) | exact (fun _ => (by omega)))) ?_))
      (try gi_wp2)
      (repeat (with_reducible refine And.intro (by with_unfolding_all (first | exact trivial | exact (fun f h => (by cases h)) | exact (fun _ => (by omega)))) ?_))
      refine HT0.out.mono ?_
      rintro e W3_ (⟨rfl, hj, hk⟩ | ⟨rfl, i, hx⟩)
      · have HX := Aside0.mk hj
        clear hj hk
        gi_wp2
        iterate 4 ((try (all_goals (first | (rename_i hu1_ hu2_ hu3_ hu4_ hu5_ hu6_ hu7_ hu8_ hu9_; (first | (injection hu1_ with hu1_; cases hu1_; done) | (injection hu2_ with hu2_; cases hu2_; done) | (injection hu3_ with hu3_; cases hu3_; done))) | skip))); (try (all_goals (try ((repeat (with_reducible refine And.intro (by with_unfolding_all (first | exact trivial | exact (fun f h => (by cases h)) | exact (fun _ => (by omega)))) ?_)); gi_wp2)))))
        all_goals (first | (refine bodyPost_ret (results_none rfl _ _ _) rfl ?_) | go_end0)
        all_goals exact ⟨⟨_, rfl⟩, .inl (by rw [HL.out]; exact HX.out)⟩
      · have HX := Aside0.mk hx
        clear hx
        gi_wp2
        iterate 4 ((try (all_goals (first | (rename_i hu1_ hu2_ hu3_ hu4_ hu5_ hu6_ hu7_ hu8_ hu9_; (first | (injection hu1_ with hu1_; cases hu1_; done) | (injection hu2_ with hu2_; cases hu2_; done) | (injection hu3_ with hu3_; cases hu3_; done))) | skip))); (try (all_goals (try ((repeat (with_reducible refine And.intro (by with_unfolding_all (first | exact trivial | exact (fun f h => (by cases h)) | exact (fun _ => (by omega)))) ?_)); gi_wp2)))))
        all_goals (first | (refine bodyPost_ret (results_none rfl _ _ _) rfl ?_) | go_end0)
        all_goals exact ⟨⟨_, rfl⟩, .inr ⟨_, HX.out⟩⟩
  · have ht : toldW h = [] := by unfold toldW; rw [if_neg hc]
    have hc' : (checkR h != 0) = true := bne_iff_ne.2 hc
    generalize checkR h = r at *
    have HT := Aside0.mk ht
    clear ht hc
    gi_wp2
    iterate 4 ((try (all_goals (first | (rename_i hu1_ hu2_ hu3_ hu4_ hu5_ hu6_ hu7_ hu8_ hu9_; (first | (injection hu1_ with hu1_; cases hu1_; done) | (injection hu2_ with hu2_; cases hu2_; done) | (injection hu3_ with hu3_; cases hu3_; done))) | skip))); (try (all_goals (try ((repeat (with_reducible refine And.intro (by with_unfolding_all (first | exact trivial | exact (fun f h => (by cases h)) | exact (fun _ => (by omega)))) ?_)); gi_wp2)))))
    all_goals (first | (refine bodyPost_ret (results_none rfl _ _ _) rfl ?_) | go_end0)
    all_goals exact ⟨⟨_, rfl⟩, .inl (by rw [HT.out]; exact H0.out)⟩
end Go.Proofs.Ytfbjjbbhnmoolaa.P
namespace Go.Proofs.Ytfbjjbbhnmoolaa.P
open Go.RowKit Go.Shelf Go.Proofs.YtfbjjbbhnmoolaaW.PrintWords Go.Proofs.YtfbjjbbhnmoolaaW.PrintLast Go.Proofs.YtfbjjbbhnmoolaaW.PrintMore
theorem reverse_loop (l : List Pr) (hm : l.length < 4611686018427387904) : ∀ (d k i : Nat) (X : List Pr), l.length - 2 * i ≤ d → d < k → X.length = l.length → 2 * i ≤ l.length + 1 →
    (∀ m (h : m < l.length) (hx : m < X.length), X[m] = if m < i ∨ l.length ≤ m + i then l[l.length - 1 - m] else l[m]) →
    pairs_Pair_int64_72.l0 k X (i : Int) ((l.length : Int) - 1 - (i : Int)) = some l.reverse := by
  intro d
  induction d with
  | zero =>
    intro k i X hd hk hl hi hX
    obtain ⟨k, rfl⟩ : ∃ m, k = m + 1 := ⟨k - 1, by omega⟩
    rw [pairs_Pair_int64_72.l0, if_neg (by omega)]
    congr 1
    refine List.ext_getElem (by simp [hl]) (fun m h1 h2 => ?_)
    rw [hX m (by omega) h1, List.getElem_reverse]
    by_cases c : m < i ∨ l.length ≤ m + i
    · rw [if_pos c]
    · rw [if_neg c]; congr 1; omega
  | succ d ih =>
    intro k i X hd hk hl hi hX
    obtain ⟨k, rfl⟩ : ∃ m, k = m + 1 := ⟨k - 1, by omega⟩
    by_cases c : (i : Int) < (l.length : Int) - 1 - (i : Int)
    · have h1 : l.length - 1 - i < X.length := by omega
      have h2 : i < X.length := by omega
      have e3 : ((l.length : Int) - 1 - (i : Int)) = ((l.length - 1 - i : Nat) : Int) := by omega
      rw [pairs_Pair_int64_72.l0, if_pos c, if_pos (by omega), if_pos (by omega), if_pos (by omega), if_pos (by omega), e3, rdPr_at h1, rdPr_at h2, Int.toNat_natCast, Int.toNat_natCast, wrap_succ (by omega), wrap_id (by omega) (by omega)]
      have e4 : (((l.length - 1 - i : Nat) : Int) - 1) = (l.length : Int) - 1 - ((i + 1 : Nat) : Int) := by omega
      rw [e4]
      refine ih k (i + 1) _ (by omega) (by omega) (by simp [hl]) (by omega) (fun m hm1 hm2 => ?_)
      rw [List.getElem_set]
      by_cases q1 : l.length - 1 - i = m
      · rw [if_pos q1, if_pos (by omega)]
        have := hX i (by omega) h2
        rw [if_neg (by omega)] at this
        have e5 : l.length - 1 - m = i := by omega
        simp only [e5]
        rw [← this]
      · rw [if_neg q1, List.getElem_set]
        by_cases q2 : i = m
        · rw [if_pos q2, if_pos (by omega)]
          have := hX (l.length - 1 - i) (by omega) h1
          rw [if_neg (by omega)] at this
          subst q2
          rw [← this]
        · rw [if_neg q2, hX m hm1 (by omega)]
          by_cases q3 : m < i ∨ l.length ≤ m + i
          · rw [if_pos q3, if_pos (by omega)]
          · rw [if_neg q3, if_neg (by omega)]
    · rw [pairs_Pair_int64_72.l0, if_neg c]
      congr 1
      refine List.ext_getElem (by simp [hl]) (fun m h1 h2 => ?_)
      rw [hX m (by omega) h1, List.getElem_reverse]
      by_cases c : m < i ∨ l.length ≤ m + i
      · rw [if_pos c]
      · rw [if_neg c]; congr 1; omega
theorem reverse_eq (l : List Pr) (hm : l.length < 4611686018427387904) (k : Nat) (hk : l.length < k) : pairs_Pair_int64_72.f k l = some l.reverse := by
  unfold pairs_Pair_int64_72.f
  by_cases h0 : l.length = 0
  · obtain rfl := List.eq_nil_of_length_eq_zero h0
    obtain ⟨k, rfl⟩ : ∃ m, k = m + 1 := ⟨k - 1, by simp at hk; omega⟩
    rw [pairs_Pair_int64_72.l0, if_neg (by rw [show (((([] : List Pr).length : Nat) : Int) - 1) = -1 from rfl, wrap_id (by omega) (by omega)]; omega)]; rfl
  · have := reverse_loop l hm l.length k 0 l (by omega) hk rfl (by omega) (fun m h hx => by rw [if_neg (by omega)])
    rw [wrap_id (by omega) (by omega)]
    simpa using this
theorem open_rc (h : Hi) (hw : wfH h) (w : World) (v : Value) (hv : HI w v h) : Calls Try.prog 71 #[v] w fun e w' =>
    ∃ v0 v1 : Value, e = .returned (.tuple #[v0, v1, .int .i64 (checkR h)]) ∧ Kd.R kPr 109 w' w.heap.size (fun k_ => (w.heap.size ≤ k_) ∧ some k_ ≠ v1.ownBlock) v0 (openR h).1 ∧ Kd.R kPr 109 w' w.heap.size (fun k_ => (w.heap.size ≤ k_) ∧ some k_ ≠ v0.ownBlock) v1 (openR h).2.1 ∧ Below w.heap.size w w' := by
  obtain ⟨A5, c5, A6, c6, A7, c7, A8, c8, rfl, ⟨_, _, e5, h51, h52⟩, ⟨_, _, e6, h61, h62⟩, ⟨_, _, e7, h71, h72⟩, ⟨_, _, e8, h81, h82⟩⟩ := hv.open_
  cases e5; cases e6; cases e7; cases e8
  exact hist_open.calls h.f0 h.f1 h.f2 h.f3 h.f4 A5 c5 h.f5 A6 c6 h.f6 A7 c7 h.f7 A8 c8 h.f8 (openR h).1 (openR h).2.1 (openR h).2.2 w h52 h51 h62 h61 h72 h71 h82 h81 (if_pos hw)
theorem RowW.of_R {n0 : Nat} {W : World} {ok : Nat → Prop} {v : Value} {l : List Pr} (h : Kd.R kPr 109 W n0 ok v l) : RowW n0 W v l := Kd.R_mono h (fun _ _ => trivial)
theorem at0 (w : World) (a b c : Array Value) (ta tb tc : TypeId) : Blk (((w.alloc (.cells a ta)).alloc (.cells b tb)).alloc (.cells c tc)) w.heap.size a ta := ((Blk.new w a ta).alloc _).alloc _
theorem at1 (w : World) (a b c : Array Value) (ta tb tc : TypeId) : Blk (((w.alloc (.cells a ta)).alloc (.cells b tb)).alloc (.cells c tc)) (w.heap.size + 1) b tb := (Blk.at1 (w := w) (.cells a ta) b tb).alloc _
theorem at2 (w : World) (a b c : Array Value) (ta tb tc : TypeId) : Blk (((w.alloc (.cells a ta)).alloc (.cells b tb)).alloc (.cells c tc)) (w.heap.size + 1 + 1) c tc := by have := Blk.at1 (w := w.alloc (.cells a ta)) (.cells b tb) c tc; simpa using this
theorem R_ok {w : World} {base : Nat} {ok ok' : Nat → Prop} {v : Value} {l : List Pr} (h : Kd.R kPr 109 w base ok v l) (h' : ∀ k, v.ownBlock = some k → ok' k) : Kd.R kPr 109 w base ok' v l := ⟨h', h.2.imp_ (fun x cs hx => by rw [k109_openM hx]; exact k109_mkM _ _ _ x)⟩
theorem R_has {w : World} {base : Nat} {ok : Nat → Prop} {v : Value} {l : List Pr} (h : Kd.R kPr 109 w base ok v l) : ∀ k, v.ownBlock = some k → ok k := h.1
theorem RowW.of_kept {n0 base : Nat} {A B : World} {ok : Nat → Prop} {v : Value} {l : List Pr} (h : Kd.R kPr 109 A base ok v l) (hn : n0 ≤ base) (hh : ∀ q, v.ownBlock = some q → B.heap[q]? = A.heap[q]?) : RowW n0 B v l :=
  Kd.R_mono (Kd.R_lower (Kd.R_step (R_ok (ok' := fun q => v.ownBlock = some q) h (fun _ e => e)) (fun q hq _ => hh q hq)) hn) (fun _ _ => trivial)
set_option maxRecDepth 100000 in
set_option maxHeartbeats 8000000 in
theorem walk_c (h : Hi) (hw : wfH h) (w : World) (v : Value) (hv : HI w v h) : Calls Try.prog 20 #[v] w fun e w' =>
    ∃ bE bN bH bP : Nat, e = .returned (.func (.func 73) #[] #[.pointer (some ⟨bE, 0, none⟩), .pointer (some ⟨bN, 0, none⟩), .pointer (some ⟨bH, 0, none⟩), .pointer (some ⟨bP, 0, none⟩)]) ∧ HoldsW w.heap.size bE bN bH bP h w' ∧ Below w.heap.size w w' := by
  have hud := Try.underlying26
  obtain ⟨A5, c5, A6, c6, A7, c7, A8, c8, e, -⟩ := hv.open_
  subst e
  have hlen := (openR_row hw).2.len
  have HO := Aside0.mk (open_rc h hw)
  have HL := Aside0.mk hlen
  have hal0 := below_alloc (Below.refl w.heap.size w) (.cells #[.int .i64 h.f0, .int .u64 h.f1, .int .u64 h.f2, .int .u64 h.f3, .int .u64 h.f4, .slice A5 h.f5.length c5, .slice A6 h.f6.length c6, .slice A7 h.f7.length c7, .slice A8 h.f8.length c8] 26)
  have HV := Aside0.mk (hv.below hal0)
  have X := Aside0.mk (Blk.new w #[.int .i64 h.f0, .int .u64 h.f1, .int .u64 h.f2, .int .u64 h.f3, .int .u64 h.f4, .slice A5 h.f5.length c5, .slice A6 h.f6.length c6, .slice A7 h.f7.length c7, .slice A8 h.f8.length c8] 26)
  have hx := fun i => X.out.cell i
  have B := Aside0.mk hal0
  clear hv hlen hal0
  go_enter Try.func20, Try.ntmps20
  go_wp2_with (first | (go_at_call 71; (with_reducible refine (HO.out _ _ HV.out).mono ?_); rintro e W1 ⟨v0, v1, rfl, h0, h1, hb⟩; replace B := Aside0.mk (below_then B.out B.out.size hb); replace X := Aside0.mk (X.out.below hb); replace hx := fun i => X.out.cell i; have R0 := Aside0.mk h0; have R1 := Aside0.mk h1; obtain ⟨P0, d0, e0⟩ := Kd.R_slice R0.out; obtain ⟨P1, d1, e1⟩ := Kd.R_slice R1.out; subst e0; subst e1; have HB0 := Aside0.mk hb; clear h0 h1 hb) | (go_at_call 72; (with_reducible refine (pairs_Pair_int64_72.calls 5000 (fun k => k < W1.heap.size ∧ some k ≠ (.slice P0 (openR h).1.length d0 : Value).ownBlock) _ (openR h).2.1 (openR h).2.1.reverse (w.alloc (.cells #[.int .i64 h.f0, .int .u64 h.f1, .int .u64 h.f2, .int .u64 h.f3, .int .u64 h.f4, .slice A5 h.f5.length c5, .slice A6 h.f6.length c6, .slice A7 h.f7.length c7, .slice A8 h.f8.length c8] 26)) _ (below_alloc (below_alloc (below_alloc HB0.out _) _) _) (R_ok (Kd.R_alloc (Kd.R_alloc (Kd.R_alloc R1.out _) _) _) (fun k hk => ⟨Kd.R_lt R1.out k hk, (R_has R1.out k hk).2⟩)) (reverse_eq _ (by have := HL.out; omega) _ (by have := HL.out; omega))).mono ?_); rintro e W2 ⟨rfl, hr, hb, hk⟩; have RR := Aside0.mk hr; have RB := Aside0.mk hb; have RK := Aside0.mk hk; clear hr hb hk))
  go_ret
  refine ⟨W1.heap.size + 1 + 1, W1.heap.size + 1, w.heap.size, W1.heap.size, rfl, ?_, below_then (below_alloc (Below.refl _ _) _) (by simp) RB.out⟩
  have hsz := HB0.out.size
  have hsz1 : w.heap.size + 1 ≤ W1.heap.size := by simpa using hsz
  have hb := RB.out
  have hk := RK.out
  refine ⟨⟨by omega, by omega, Nat.le_refl _, by omega⟩, ?_, ⟨.slice P1 (openR h).2.1.length d1, ?_, RowW.of_R (Kd.R_lower RR.out (by simp))⟩, ⟨.slice A5 h.f5.length c5, .slice A6 h.f6.length c6, .slice A7 h.f7.length c7, .slice A8 h.f8.length c8, ?_⟩, ⟨.slice P0 (openR h).1.length d0, ?_, ?_⟩⟩
  · exact (hk.2 (W1.heap.size + 1 + 1) (by simp) (fun q => by have := q.1; omega)).trans (at2 W1 _ _ _ _ _ _)
  · exact (hk.2 (W1.heap.size + 1) (by simp) (fun q => by have := q.1; omega)).trans (at1 W1 _ _ _ _ _ _)
  · exact (hb.block w.heap.size (by simp)).trans (blk_new w _)
  · exact (hk.2 W1.heap.size (by simp; omega) (fun q => by have := q.1; omega)).trans (at0 W1 _ _ _ _ _ _)
  · have hk0 : ∀ q, (Value.slice P0 (openR h).1.length d0).ownBlock = some q → W2.heap[q]? = W1.heap[q]? := fun q hq => by
      have hl := Kd.R_lt R0.out q hq
      refine (hk.2 q (by simp; omega) (fun y => y.2 hq.symm)).trans ?_
      refine (Below.heap_alloc _ _ _ (by simp; omega)).trans ((Below.heap_alloc _ _ _ (by simp; omega)).trans (Below.heap_alloc _ _ _ hl))
    exact RowW.of_kept R0.out (by simp) hk0
theorem walk1_stops (n : Nat) (hn : 2 ≤ n) (n0 bE bN bH bP : Nat) (h : Hi) (hwf : wfH h) (w : World) (hn0 : n0 ≤ w.heap.size) (hS : HoldsW n0 bE bN bH bP h w) :
    SeqStopsK Fence.wide n Try.prog 73 #[.pointer (some ⟨bE, 0, none⟩), .pointer (some ⟨bN, 0, none⟩), .pointer (some ⟨bH, 0, none⟩), .pointer (some ⟨bP, 0, none⟩)] (fun x : Fin (toldW h).length => #[encB ((toldW h).get x)]) (KeepC n0) (fun ys => ys.map (·.val) = List.range (toldW h).length) (fun ys => ys.map (·.val) = List.range ys.length) (toldW h).length w := by
  intro L J Jx W hW hJ hJx hY h0
  refine (walk1_in n hn L n0 bE bN bH bP h hwf (fun i W => ∃ xs : List (Fin (toldW h).length), xs.map (·.val) = List.range i ∧ J xs W) (fun i W => ∃ xs, xs.map (·.val) = List.range xs.length ∧ Jx xs W)
    (fun i A B ⟨xs, e, hj⟩ hg => ⟨xs, e, hJ xs A B none hj hg (fun r e => by cases e)⟩)
    (by
      rintro i W1 ⟨xs, e, hj⟩ x hx
      obtain ⟨hi, rfl⟩ := List.getElem?_eq_some_iff.1 hx
      have hl : xs.length = i := by have := congrArg List.length e; simpa using this
      obtain ⟨fn, tmps, assign, body, hyy, hR⟩ := hY xs ⟨i, hi⟩ W1 hj (by omega)
      refine ⟨fn, tmps, assign, body, hyy, hR.mono ?_⟩
      rintro e' W' (⟨e1, e2, e3⟩ | ⟨e1, e2⟩)
      · exact .inl ⟨e1, ⟨xs ++ [⟨i, hi⟩], by rw [List.map_append, e, List.range_succ]; rfl, e2⟩, e3⟩
      · exact .inr ⟨e1, ⟨_, by rw [List.map_append, e, List.length_append, hl]; show List.range i ++ [i] = List.range (i + 1); rw [List.range_succ], e2⟩⟩)
    W (Nat.le_trans hn0 hW.size) (hS.keep (KeepC.of_below hW)) ⟨[], rfl, h0⟩).mono ?_
  rintro e W' ⟨hv, ⟨xs, e1, hj⟩ | ⟨i, xs, hp, hj⟩⟩
  · exact ⟨hv, .inl ⟨xs, e1, hj⟩⟩
  · exact ⟨hv, .inr ⟨xs, hp, hj⟩⟩
end Go.Proofs.Ytfbjjbbhnmoolaa.P
namespace Go.Proofs.Ytfbjjbbhnmoolaa.P
open Go.RowKit Go.Shelf Go.Proofs.YtfbjjbbhnmoolaaW.PrintWords Go.Proofs.YtfbjjbbhnmoolaaW.PrintLast Go.Proofs.YtfbjjbbhnmoolaaW.PrintMore
attribute [local go_sem] Oper.semAt_some
def sumB : List Bk → Int
  | [] => 0
  | b :: l => b.n + sumB l
theorem sumB_app : ∀ (l m : List Bk), sumB (l ++ m) = sumB l + sumB m
  | [], m => by simp [sumB]
  | b :: l, m => by simp only [List.cons_append, sumB]; rw [sumB_app l m]; omega
theorem sumB_snoc (l : List Bk) (b : Bk) : sumB (l ++ [b]) = sumB l + b.n := by rw [sumB_app]; simp [sumB]
theorem segW_u64 {side : Int} {l : List Pr} (h : cnts l) : ∀ b ∈ segW side l, 0 ≤ b.n ∧ b.n < 9223372036854775808 := by
  intro b hb
  unfold segW at hb
  obtain ⟨q, hq, rfl⟩ := List.mem_map.1 hb
  have h1 := h q (List.mem_filter.1 hq).1
  exact ⟨by show 0 ≤ q.f1; omega, by show q.f1 < _; omega⟩
theorem toldW_u64 {h : Hi} (hw : wfH h) : ∀ b ∈ toldW h, u64 b.n := by
  intro b hb
  have hrow := openR_row hw
  unfold toldW at hb
  by_cases c : checkR h = 0
  · rw [if_pos c] at hb
    rcases List.mem_append.1 hb with hb | hb
    · have := segW_u64 (side := 1) (l := (openR h).2.1.reverse) (fun q hq => hrow.2.cnt q (List.mem_reverse.1 hq)) b hb
      exact ⟨by omega, by omega⟩
    rcases List.mem_append.1 hb with hb | hb
    · by_cases z : h.f2 = 0
      · rw [if_pos z] at hb; simp at hb
      · rw [if_neg z] at hb
        obtain rfl := List.mem_singleton.1 hb
        exact hw.2.2.1
    · have := segW_u64 (side := 0) hrow.1.cnt b hb
      exact ⟨by omega, by omega⟩
  · rw [if_neg c] at hb; simp at hb
def toldL (h : Hi) (pre : List (Fin (toldW h).length)) : List Bk := pre.map (fun i => (toldW h).get i)
theorem toldL_snoc (h : Hi) (pre : List (Fin (toldW h).length)) (x : Fin (toldW h).length) : toldL h (pre ++ [x]) = toldL h pre ++ [(toldW h).get x] := by unfold toldL; rw [List.map_append]; rfl
theorem toldL_take {h : Hi} {pre : List (Fin (toldW h).length)} (e : pre.map (·.val) = List.range pre.length) : toldL h pre = (toldW h).take pre.length := by
  have hv : ∀ i (hi : i < pre.length), pre[i].val = i := fun i hi => by
    have : (pre.map (·.val))[i]'(by simpa using hi) = i := by simp only [e, List.getElem_range]
    simpa using this
  have hl : pre.length ≤ (toldW h).length := by
    rcases Nat.eq_zero_or_pos pre.length with h0 | h0
    · omega
    · have := hv (pre.length - 1) (by omega)
      have := pre[pre.length - 1].isLt
      omega
  unfold toldL
  refine List.ext_getElem (by simp; omega) (fun i h1 h2 => ?_)
  have hi : i < pre.length := by simpa using h1
  simp only [List.getElem_map, List.getElem_take, List.get_eq_getElem, hv i hi]
theorem toldL_all {h : Hi} {pre : List (Fin (toldW h).length)} (e : pre.map (·.val) = List.range (toldW h).length) : toldL h pre = toldW h := by
  have hl : pre.length = (toldW h).length := by have := congrArg List.length e; simpa using this
  rw [toldL_take (by rw [e, hl]), hl, List.take_length]
def encB1 (b : Bk) : Array Value := #[.int .i64 b.s, .int .i64 b.p, .int .u64 b.n]
def BlkF (W : World) (g : Nat) (cs : Array Value) : Prop := Blk W g cs 52
theorem BlkF.grown {A B : World} {g : Nat} {cs : Array Value} {row : Option Nat} {n0 : Nat} (h : BlkF A g cs) (hg : A.grownBy B row) (hr : ∀ r, row = some r → n0 ≤ r ∧ ∃ o : Obj, A.heap[r]? = some o ∧ o.isCells = false) : BlkF B g cs :=
  (hg.block g (blk_lt h) (fun e => by obtain ⟨-, o, h1, h2⟩ := hr g e.symm; rw [show A.heap[g]? = _ from h] at h1; injection h1 with h1; subst h1; cases h2)).trans h
def totalR (h : Hi) : Int × Int := if checkR h = 0 then (IntKind.u64.wrap (sumB (toldW h)), 0) else (0, checkR h)
set_option maxHeartbeats 8000000 in
set_option maxRecDepth 100000 in
theorem total_c (h : Hi) (hw : wfH h) (w : World) (v : Value) (hv : HI w v h) : Calls Try.prog 76 #[v] w fun e w' =>
    e = .returned (.tuple #[.int .u64 (totalR h).1, .int .i64 (totalR h).2]) ∧ Below w.heap.size w w' := by
  have hud := Try.underlying26
  have hub := Try.underlying52
  obtain ⟨A5, c5, A6, c6, A7, c7, A8, c8, e, -⟩ := hv.open_
  subst e
  have hal0 := below_alloc (Below.refl w.heap.size w) (.cells #[.int .i64 h.f0, .int .u64 h.f1, .int .u64 h.f2, .int .u64 h.f3, .int .u64 h.f4, .slice A5 h.f5.length c5, .slice A6 h.f6.length c6, .slice A7 h.f7.length c7, .slice A8 h.f8.length c8] 26)
  have HV := Aside0.mk (hv.below hal0)
  have X := Aside0.mk (Blk.new w #[.int .i64 h.f0, .int .u64 h.f1, .int .u64 h.f2, .int .u64 h.f3, .int .u64 h.f4, .slice A5 h.f5.length c5, .slice A6 h.f6.length c6, .slice A7 h.f7.length c7, .slice A8 h.f8.length c8] 26)
  have hx := fun i => X.out.cell i
  have B := Aside0.mk hal0
  have CK := Aside0.mk (check_c h hw)
  have WK := Aside0.mk (walk_c h hw)
  have HW := Aside0.mk hw
  clear hv hal0 hw
  unfold totalR
  by_cases c1 : checkR h = 0
  rotate_left
  · rw [if_neg c1]
    generalize checkR h = ec at *
    have d1 : (ec != 0) = true := bne_iff_ne.2 c1
    clear c1 WK
    go_enter Try.func76, Try.ntmps76
    go_wp2_with (go_at_call 50; (with_reducible refine (CK.out _ _ HV.out).mono ?_); rintro e W1 ⟨rfl, hb⟩; replace B := Aside0.mk (below_then B.out B.out.size hb); clear hb)
    go_ret2
    exact ⟨rfl, B.out⟩
  rw [if_pos c1]
  rw [c1] at CK
  have HC := Aside0.mk c1
  clear c1
  refine (callsIn_wide (n := 5)).1 ?_
  refine callsIn_of_wp_marks Try.func76 rfl trivial ?_ rfl
  simp only [Try.ntmps76, List.size_toArray, List.length_cons, List.length_nil, Nat.reduceAdd, Nat.reduceSub, Array.replicate_succ, Array.replicate_zero, List.push_toArray, List.append_toArray, List.nil_append, List.cons_append]
  refine wpIn_wide.2 ?_
  go_wp2_with (first | (go_at_call 50; (with_reducible refine (CK.out _ _ HV.out).mono ?_); rintro e W1 ⟨rfl, hb⟩; replace B := Aside0.mk (below_then B.out B.out.size hb); replace HV := Aside0.mk (HV.out.below hb); replace X := Aside0.mk (X.out.below hb); replace hx := fun i => X.out.cell i; have hxa := fun i => (X.out.alloc (.cells #[.int .u64 0] 22)).cell i; have LOWA := Aside0.mk hb.size; clear hb) | (go_at_call 20; (with_reducible refine (WK.out _ _ (HV.out.below (below_alloc (Below.refl _ _) _))).mono ?_); rintro e W2 ⟨bE, bN, bH, bP, rfl, hS, hb⟩; replace B := Aside0.mk (below_then (below_then B.out B.out.size (below_alloc (Below.refl _ _) (.cells #[.int .u64 0] 22))) (by have := B.out.size; simp at this ⊢; omega) hb); have HS := Aside0.mk hS; have HB2 := Aside0.mk hb; clear hS hb))
  refine (wpIn_wide (n := 5)).1 ?_
  have hz1 : (W1.alloc (.cells #[.int .u64 0] 22)).heap.size = W1.heap.size + 1 := by simp
  have hbx0 : Boxed W2 W1.heap.size 22 (.int .u64 0) := (HB2.out.block _ (by simp)).trans (by simpa using blk_new W1 (.cells #[.int .u64 0] 22))
  have hge2 : W1.heap.size + 1 ≤ W2.heap.size := by have := HB2.out.size; omega
  have hw2 : w.heap.size ≤ W1.heap.size := by have := LOWA.out; simp at this; omega
  have hS2 : HoldsW (W1.heap.size + 1) bE bN bH bP h W2 := by have := HS.out; rwa [hz1] at this
  refine wpIn_rangeFunc_ownH rfl (by omega) (gf := 73) (lb := #[.pointer (some ⟨bE, 0, none⟩), .pointer (some ⟨bN, 0, none⟩), .pointer (some ⟨bH, 0, none⟩), .pointer (some ⟨bP, 0, none⟩)]) rfl trivial (enters_of Try.func73 (by kernel_rfl) rfl)
    (walk1_stops _ (by omega) (W1.heap.size + 1) bE bN bH bP h HW.out W2 hge2 hS2) KeepC.trans (fun W l o o' _ h hc _ => KeepC.put W l o o' h hc) (Below.refl _ _) (fun _ => rfl)
    (fun pre W => Boxed W W1.heap.size 22 (.int .u64 (IntKind.u64.wrap (sumB (toldL h pre)))) ∧ (Below w.heap.size w W ∧ W2.heap.size ≤ W.heap.size))
    (fun _ _ _ => False)
    (OwnFrom.and (Own.from (boxed_own _ _ _) _) (OwnFrom.and (ownFrom_below (Nat.le_refl _) (by omega)) (fun s A B row hs hg hr => Nat.le_trans hs hg.size)))
    (fun _ _ _ _ _ hs _ _ => hs)
    ⟨hbx0, B.out, Nat.le_refl _⟩
    (fun x a' W => ∃ b, a' = ({ tmps := #[.agg #[.int .i64 h.f0, .int .u64 h.f1, .int .u64 h.f2, .int .u64 h.f3, .int .u64 h.f4, .slice A5 h.f5.length c5, .slice A6 h.f6.length c6, .slice A7 h.f7.length c7, .slice A8 h.f8.length c8], .pointer (some ⟨w.heap.size, 0, none⟩), .int .u64 0, .int .i64 0, .int .i64 0, .pointer (some ⟨W1.heap.size, 0, none⟩), .pointer (some ⟨b, 0, none⟩), .agg #[.int .i64 h.f0, .int .u64 h.f1, .int .u64 h.f2, .int .u64 h.f3, .int .u64 h.f4, .slice A5 h.f5.length c5, .slice A6 h.f6.length c6, .slice A7 h.f7.length c7, .slice A8 h.f8.length c8], .int .i64 0, .int .i64 0, .bool false, undef, .agg #[.int .i64 h.f0, .int .u64 h.f1, .int .u64 h.f2, .int .u64 h.f3, .int .u64 h.f4, .slice A5 h.f5.length c5, .slice A6 h.f6.length c6, .slice A7 h.f7.length c7, .slice A8 h.f8.length c8], .func (.func 73) #[] #[.pointer (some ⟨bE, 0, none⟩), .pointer (some ⟨bN, 0, none⟩), .pointer (some ⟨bH, 0, none⟩), .pointer (some ⟨bP, 0, none⟩)], encB ((toldW h).get x), undef, undef, undef, undef, undef], defers := [] } : Act) ∧ BlkF W b (encB1 ((toldW h).get x)) ∧ W2.heap.size ≤ b) (fun x a' s A B row ⟨b, e, hb, hge⟩ hg hr => ⟨b, e, hb.grown hg hr, hge⟩) ?assign ?body ?done ?stop
  case assign =>
    intro l pre x W K hI hK
    have HI_ := Aside0.mk hI
    have HK := Aside0.mk hK
    clear hI hK
    obtain ⟨y, hy⟩ : ∃ y, y = (toldW h).get x := ⟨_, rfl⟩
    have HY := Aside0.mk hy
    simp only [← hy]
    clear hy
    unfold encB
    gi_wp2
    have hbl := below_alloc (Below.refl W.heap.size W) (.cells (encB1 y) 52)
    refine HK.out _ _ ((KeepsOthers.alloc W (.cells (encB1 y) 52)).from _) (KeepC.of_below hbl) ⟨HI_.out.1.alloc _, below_then HI_.out.2.1 HI_.out.2.1.size hbl, Nat.le_trans HI_.out.2.2 hbl.size⟩ ⟨W.heap.size, ?_, ?_, HI_.out.2.2⟩
    · rw [← HY.out]; rfl
    · rw [← HY.out]; exact Blk.new W _ _
  case body =>
    rintro l pre x a' W hl hlr ⟨hx1, hx2, hx3⟩ ⟨b, rfl, hb, hge⟩ hlt
    obtain ⟨y, hy⟩ : ∃ y, y = (toldW h).get x := ⟨_, rfl⟩
    have HT := Aside0.mk (toldL_snoc h pre x)
    rw [← hy] at hb HT
    simp only [← hy]
    clear hy
    unfold encB
    obtain ⟨s, hs⟩ : ∃ s, s = sumB (toldL h pre) := ⟨_, rfl⟩
    rw [← hs] at hx1
    have HS_ := Aside0.mk hs
    have hc := hx1.cell
    have hf := hx1.frozen
    have hbc := fun i => Blk.cell hb i
    have HX1 := Aside0.mk hx1
    have HX2 := Aside0.mk hx2
    have HX3 := Aside0.mk hx3
    have HBB := Aside0.mk hb
    clear hs hx1 hx2 hx3 hb hl hlr hlt
    unfold encB1 at hbc
    gi_wp2
    have hw1 : IntKind.u64.wrap (IntKind.u64.wrap s + y.n) = IntKind.u64.wrap (sumB (toldL h (pre ++ [x]))) := by
      rw [HT.out, sumB_snoc, ← HS_.out]
      show (s % 18446744073709551616 + y.n) % 18446744073709551616 = (s + y.n) % 18446744073709551616
      omega
    rw [hw1]
    refine ⟨KeepsFrom.of_grownBy (grownBy_setCell' _ _ _) (fun j e => by cases e; omega), KeepC.setCell _ (Nat.lt_succ_self _) _, HX1.out.set _, ?_, ?_⟩
    · exact HX2.out.setCell (by omega) _
    · have := HX3.out; simp [World.setCell]; exact this
  case done =>
    rintro D xs W hD hS ⟨hx1, hx2, hx3⟩ hK
    rw [toldL_all hS] at hx1
    have hc := hx1.cell
    have HX2 := Aside0.mk hx2
    have HK := Aside0.mk hK
    clear hx1 hx2 hx3 hK hS
    go_wp2
    refine ⟨by simp, .inl ⟨_, _, rfl, run_takeDeferred HK.out, ?_⟩⟩
    exact ⟨_, results_tmp2 rfl _ _ _, rfl, HX2.out.trans (belowK_b (w := W2) (by omega) W D _ _ hD HK.out rfl rfl)⟩
  case stop =>
    rintro D c pre W _ _ h _
    exact h.elim
end Go.Proofs.Ytfbjjbbhnmoolaa.P
namespace Go.Proofs.Ytfbjjbbhnmoolaa.P
open Go.RowKit Go.Shelf Go.Proofs.YtfbjjbbhnmoolaaW.PrintWords Go.Proofs.YtfbjjbbhnmoolaaW.PrintLast Go.Proofs.YtfbjjbbhnmoolaaW.PrintMore
attribute [local go_sem] Oper.semAt_some
def findK : List Bk → Int → Option Bk
  | [], _ => none
  | b :: l, k => if k ≤ b.n then some b else findK l (k - b.n)
def leftK : List Bk → Int → Int
  | [], k => k
  | b :: l, k => leftK l (k - b.n)
theorem leftK_sum : ∀ (l : List Bk) (k : Int), leftK l k = k - sumB l
  | [], k => by simp [leftK, sumB]
  | b :: l, k => by rw [leftK, leftK_sum l]; simp only [sumB]; omega
theorem findK_app : ∀ (l m : List Bk) (k : Int), findK (l ++ m) k = match findK l k with | some b => some b | none => findK m (leftK l k)
  | [], m, k => rfl
  | b :: l, m, k => by
    simp only [List.cons_append, findK, leftK]
    by_cases c : k ≤ b.n
    · rw [if_pos c, if_pos c]
    · rw [if_neg c, if_neg c, findK_app l m]
theorem findK_left : ∀ (l : List Bk) (k : Int), (∀ b ∈ l, 0 ≤ b.n) → 0 < k → findK l k = none → 0 < leftK l k ∧ leftK l k ≤ k
  | [], k, _, h, _ => ⟨h, Int.le_refl _⟩
  | b :: l, k, hp, h, hn => by
    simp only [findK] at hn
    simp only [leftK]
    by_cases c : k ≤ b.n
    · rw [if_pos c] at hn; cases hn
    · rw [if_neg c] at hn
      have h1 := findK_left l (k - b.n) (fun x hx => hp x (List.mem_cons_of_mem _ hx)) (by omega) hn
      have h2 := hp b (List.mem_cons_self ..)
      omega
def atR (h : Hi) (k : Int) : Bk × Int := if checkR h = 0 then (if 0 < k then (match findK (toldW h) k with | some b => (b, 0) | none => (⟨0, 0, 0⟩, 11)) else (⟨0, 0, 0⟩, 11)) else (⟨0, 0, 0⟩, checkR h)
theorem at3 (w : World) (a b : Obj) (c : Array Value) (tc : TypeId) : Blk (((w.alloc a).alloc b).alloc (.cells c tc)) (w.heap.size + 1 + 1) c tc := by have := Blk.at1 (w := w.alloc a) b c tc; simpa using this
theorem at4 (w : World) (a b c : Obj) (d : Array Value) (td : TypeId) : Blk ((((w.alloc a).alloc b).alloc c).alloc (.cells d td)) (w.heap.size + 1 + 1 + 1) d td := by have := at3 (w.alloc a) b c d td; simpa using this
theorem three {W : World} {g : Nat} {t : TypeId} {a0 a1 a2 : Value} (h : W.heap[g]? = some (.cells #[a0, a1, a2] t (0, 0))) (v0 v1 v2 : Value) :
    (((W.setCell ⟨g, 0, none⟩ v0).setCell ⟨g, 1, none⟩ v1).setCell ⟨g, 2, none⟩ v2).heap[g]? = some (.cells #[v0, v1, v2] t (0, 0)) := by
  refine blk_put (cs := #[v0, v1, a2]) ?_ 2 _ rfl
  refine blk_put (cs := #[v0, a1, a2]) ?_ 1 _ rfl
  exact blk_put (cs := #[a0, a1, a2]) h 0 _ rfl
theorem Blk.grown {A B : World} {g : Nat} {cs : Array Value} {t : TypeId} {row : Option Nat} {n0 : Nat} (h : Blk A g cs t) (hg : A.grownBy B row) (hr : ∀ r, row = some r → n0 ≤ r ∧ ∃ o : Obj, A.heap[r]? = some o ∧ o.isCells = false) : Blk B g cs t :=
  (hg.block g (blk_lt h) (fun e => by obtain ⟨-, o, h1, h2⟩ := hr g e.symm; rw [show A.heap[g]? = _ from h] at h1; injection h1 with h1; subst h1; cases h2)).trans h
theorem blk_put_ne {W : World} {g g' j : Nat} {o : Obj} (h : W.heap[g]? = some o) (hne : g ≠ g') (u : Value) : (W.setCell ⟨g', j, none⟩ u).heap[g]? = some o := (Below.heap_setCell W ⟨g', j, none⟩ u g hne).trans h
theorem cell_put1 {W : World} {g g' : Nat} {a : Value} {t : TypeId} (h : Blk W g' #[a] t) (hne : g' ≠ g) (v0 v1 v2 u : Value) : ((((W.setCell ⟨g, 0, none⟩ v0).setCell ⟨g, 1, none⟩ v1).setCell ⟨g, 2, none⟩ v2).setCell ⟨g', 0, none⟩ u).cell? ⟨g', 0, none⟩ = some u := by
  have h3 := blk_put_ne (j := 2) (blk_put_ne (j := 1) (blk_put_ne (j := 0) h hne v0) hne v1) hne v2
  exact (Boxed.set u h3).cell
theorem blk_putObj_ne {W : World} {g D : Nat} {o : Obj} (h : W.heap[g]? = some o) (hne : g ≠ D) (o' : Obj) : (W.putObj D o').heap[g]? = some o := (World.putObj_heap_other hne).trans h
theorem cell_putObj_ne {W : World} {g D : Nat} {i : Nat} {v : Value} (h : W.cell? ⟨g, i, none⟩ = some v) (hne : g ≠ D) (o' : Obj) : (W.putObj D o').cell? ⟨g, i, none⟩ = some v := by
  have e : (W.putObj D o').heap[g]? = W.heap[g]? := World.putObj_heap_other hne
  simp only [World.cell?, e] at h ⊢
  exact h
theorem below_putObj_hi {n0 D : Nat} (W : World) (o : Obj) (_ : True) (h : n0 ≤ D) : Below n0 W (W.putObj D o) := by
  exact ⟨rfl, rfl, rfl, by simp [World.putObj], fun k hk => World.putObj_heap_other (by omega)⟩
theorem results_ci {P : Program} {fn : Func} {p p' : Tmp} {ty ty' : TypeId} (h : fn.results = #[.cell p ty, .cell p' ty']) (tmps : Array Value) (w : World) (g g' : Nat) (t : TypeId) (cs : Array Value) (fr : Nat × Nat) (d : TypeDesc) (kk : IntKind) (v' : Value)
    (hp : tmps.getD p undef = .pointer (some ⟨g, 0, none⟩)) (hg : w.heap[g]? = some (.cells cs t fr))
    (hu : P.underlying ty = some d) (hd : (match d with | .struct _ | .array _ _ => true | _ => false) = true) (hi : (P.info? ty).map (·.size) = some cs.size)
    (hp' : tmps.getD p' undef = .pointer (some ⟨g', 0, none⟩)) (hc : w.cell? ⟨g', 0, none⟩ = some v') (hu' : P.underlying ty' = some (.int kk)) :
    (results fn tmps).run P w = .ok (.tuple #[.agg cs, v']) w := by
  have h1 : tmps[p]?.getD undef = .pointer (some ⟨g, 0, none⟩) := by simpa using hp
  have h2 : tmps[p']?.getD undef = .pointer (some ⟨g', 0, none⟩) := by simpa using hp'
  have hagg : (isAgg ty').run P w = .ok false w := by
    unfold isAgg
    rw [Sem.run_bind, run_underlying hu' w]
    simp
  have hl : (loadVar ty' ⟨g', 0, none⟩).run P w = .ok v' w := by
    simp [loadVar, Sem.run_bind, hagg, hc, go_sem]
  simp [results, h, h1, h2, asAddr, run_loadVar_row w g t ty cs fr d hg hu hd hi, hl]
set_option maxHeartbeats 8000000 in
set_option maxRecDepth 100000 in
theorem at_c (h : Hi) (hw : wfH h) (k : Int) (hk : u64 k) (w : World) (v : Value) (hv : HI w v h) : Calls Try.prog 27 #[v, .int .u64 k] w fun e w' =>
    e = .returned (.tuple #[.agg (encB1 (atR h k).1), .int .i64 (atR h k).2]) ∧ Below w.heap.size w w' := by
  have hud := Try.underlying26
  have hub := Try.underlying52
  obtain ⟨A5, c5, A6, c6, A7, c7, A8, c8, e, -⟩ := hv.open_
  subst e
  have hal0 := below_alloc (below_alloc (below_alloc (below_alloc (Below.refl w.heap.size w) (.cells #[.int .i64 h.f0, .int .u64 h.f1, .int .u64 h.f2, .int .u64 h.f3, .int .u64 h.f4, .slice A5 h.f5.length c5, .slice A6 h.f6.length c6, .slice A7 h.f7.length c7, .slice A8 h.f8.length c8] 26)) (.cells #[.int .u64 k] 22)) (.cells #[.int .i64 0, .int .i64 0, .int .u64 0] 52)) (.cells #[.int .i64 0] 32)
  have HV := Aside0.mk (hv.below hal0)
  have X := Aside0.mk (((((Blk.new w #[.int .i64 h.f0, .int .u64 h.f1, .int .u64 h.f2, .int .u64 h.f3, .int .u64 h.f4, .slice A5 h.f5.length c5, .slice A6 h.f6.length c6, .slice A7 h.f7.length c7, .slice A8 h.f8.length c8] 26).alloc (.cells #[.int .u64 k] 22)).alloc (.cells #[.int .i64 0, .int .i64 0, .int .u64 0] 52)).alloc (.cells #[.int .i64 0] 32)))
  have hx := fun i => X.out.cell i
  have Y := Aside0.mk ((((Blk.at1 (w := w) (.cells #[.int .i64 h.f0, .int .u64 h.f1, .int .u64 h.f2, .int .u64 h.f3, .int .u64 h.f4, .slice A5 h.f5.length c5, .slice A6 h.f6.length c6, .slice A7 h.f7.length c7, .slice A8 h.f8.length c8] 26) #[.int .u64 k] 22).alloc (.cells #[.int .i64 0, .int .i64 0, .int .u64 0] 52)).alloc (.cells #[.int .i64 0] 32)))
  have hy := fun i => Y.out.cell i
  have R := Aside0.mk ((at3 w (.cells #[.int .i64 h.f0, .int .u64 h.f1, .int .u64 h.f2, .int .u64 h.f3, .int .u64 h.f4, .slice A5 h.f5.length c5, .slice A6 h.f6.length c6, .slice A7 h.f7.length c7, .slice A8 h.f8.length c8] 26) (.cells #[.int .u64 k] 22) #[.int .i64 0, .int .i64 0, .int .u64 0] 52).alloc (.cells #[.int .i64 0] 32))
  have hr := fun i => R.out.cell i
  have hrf := fun i => blk_frozen R.out i
  have S := Aside0.mk (at4 w (.cells #[.int .i64 h.f0, .int .u64 h.f1, .int .u64 h.f2, .int .u64 h.f3, .int .u64 h.f4, .slice A5 h.f5.length c5, .slice A6 h.f6.length c6, .slice A7 h.f7.length c7, .slice A8 h.f8.length c8] 26) (.cells #[.int .u64 k] 22) (.cells #[.int .i64 0, .int .i64 0, .int .u64 0] 52) #[.int .i64 0] 32)
  have hs := fun i => S.out.cell i
  have hsf := fun i => blk_frozen S.out i
  have B := Aside0.mk hal0
  have CK := Aside0.mk (check_c h hw)
  have WK := Aside0.mk (walk_c h hw)
  have HW := Aside0.mk hw
  clear hv hal0 hw
  unfold atR
  by_cases c1 : checkR h = 0
  rotate_left
  · rw [if_neg c1]
    generalize checkR h = ec at *
    have d1 : (ec != 0) = true := bne_iff_ne.2 c1
    clear c1 WK
    go_enter Try.func27, Try.ntmps27
    go_wp2_with (first | (go_at_call 50; (with_reducible refine (CK.out _ _ HV.out).mono ?_); rintro e W1 ⟨rfl, hb⟩; replace B := Aside0.mk (below_then B.out B.out.size hb); replace HV := Aside0.mk (HV.out.below hb); replace X := Aside0.mk (X.out.below hb); replace hx := fun i => X.out.cell i; replace Y := Aside0.mk (Y.out.below hb); replace hy := fun i => Y.out.cell i; replace R := Aside0.mk (R.out.below hb); replace hr := fun i => R.out.cell i; replace S := Aside0.mk (S.out.below hb); replace hs := fun i => S.out.cell i; replace hrf := fun i => blk_frozen R.out i; replace hsf := fun i => blk_frozen S.out i; have LOWA := Aside0.mk hb.size; clear hb))
    refine bodyPost_ret (results_ci rfl _ _ (w.heap.size + 1 + 1) (w.heap.size + 1 + 1 + 1) 52 #[_, _, _] (0, 0) _ .i64 (.int .i64 ec) rfl (blk_put_ne (three R.out _ _ _) (by omega) _) Try.underlying52 rfl (by kernel_rfl) rfl (cell_put1 S.out (by omega) _ _ _ _) Try.underlying32) rfl ?_
    exact ⟨rfl, (((B.out.setCell (by simp; omega) _).setCell (by simp; omega) _).setCell (by simp; omega) _).setCell (by simp; omega) _⟩
  rw [if_pos c1]
  rw [c1] at CK
  have HC := Aside0.mk c1
  clear c1
  by_cases c2 : 0 < k
  rotate_left
  · rw [if_neg c2]
    have d2 : decide (0 < k) = false := decide_eq_false c2
    go_enter Try.func27, Try.ntmps27
    go_wp2_with (first | (go_at_call 50; (with_reducible refine (CK.out _ _ HV.out).mono ?_); rintro e W1 ⟨rfl, hb⟩; replace B := Aside0.mk (below_then B.out B.out.size hb); replace HV := Aside0.mk (HV.out.below hb); replace X := Aside0.mk (X.out.below hb); replace hx := fun i => X.out.cell i; replace Y := Aside0.mk (Y.out.below hb); replace hy := fun i => Y.out.cell i; replace R := Aside0.mk (R.out.below hb); replace hr := fun i => R.out.cell i; replace S := Aside0.mk (S.out.below hb); replace hs := fun i => S.out.cell i; replace hrf := fun i => blk_frozen R.out i; replace hsf := fun i => blk_frozen S.out i; have LOWA := Aside0.mk hb.size; clear hb))
    refine bodyPost_ret (results_ci rfl _ _ (w.heap.size + 1 + 1) (w.heap.size + 1 + 1 + 1) 52 #[_, _, _] (0, 0) _ .i64 (.int .i64 11) rfl (blk_put_ne (three R.out _ _ _) (by omega) _) Try.underlying52 rfl (by kernel_rfl) rfl (cell_put1 S.out (by omega) _ _ _ _) Try.underlying32) rfl ?_
    exact ⟨rfl, (((B.out.setCell (by simp; omega) _).setCell (by simp; omega) _).setCell (by simp; omega) _).setCell (by simp; omega) _⟩
  rw [if_pos c2]
  generalize hans : (match findK (toldW h) k with | some b => ((b, 0) : Bk × Int) | none => (⟨0, 0, 0⟩, 11)) = ans
  have HANS := Aside0.mk hans
  clear hans
  have d2 : decide (0 < k) = true := decide_eq_true c2
  have C2 := Aside0.mk c2
  clear c2
  refine (callsIn_wide (n := 5)).1 ?_
  refine callsIn_of_wp_marks Try.func27 rfl trivial ?_ rfl
  simp only [Try.ntmps27, List.size_toArray, List.length_cons, List.length_nil, Nat.reduceAdd, Nat.reduceSub, Array.replicate_succ, Array.replicate_zero, List.push_toArray, List.append_toArray, List.nil_append, List.cons_append]
  refine wpIn_wide.2 ?_
  go_wp2_with (first | (go_at_call 50; (with_reducible refine (CK.out _ _ HV.out).mono ?_); rintro e W1 ⟨rfl, hb⟩; replace B := Aside0.mk (below_then B.out B.out.size hb); replace HV := Aside0.mk (HV.out.below hb); replace X := Aside0.mk (X.out.below hb); replace hx := fun i => X.out.cell i; replace Y := Aside0.mk (Y.out.below hb); replace hy := fun i => Y.out.cell i; replace R := Aside0.mk (R.out.below hb); replace hr := fun i => R.out.cell i; replace S := Aside0.mk (S.out.below hb); replace hs := fun i => S.out.cell i; replace hrf := fun i => blk_frozen R.out i; replace hsf := fun i => blk_frozen S.out i; have LOWA := Aside0.mk hb.size; clear hb) | (go_at_call 20; (with_reducible refine (WK.out _ _ HV.out).mono ?_); rintro e W2 ⟨bE, bN, bH, bP, rfl, hS, hb⟩; replace B := Aside0.mk (below_then B.out B.out.size hb); replace HV := Aside0.mk (HV.out.below hb); replace X := Aside0.mk (X.out.below hb); replace hx := fun i => X.out.cell i; replace Y := Aside0.mk (Y.out.below hb); replace hy := fun i => Y.out.cell i; replace R := Aside0.mk (R.out.below hb); replace hr := fun i => R.out.cell i; replace S := Aside0.mk (S.out.below hb); replace hs := fun i => S.out.cell i; replace hrf := fun i => blk_frozen R.out i; replace hsf := fun i => blk_frozen S.out i; have HS := Aside0.mk hS; have HB2 := Aside0.mk hb; clear hS hb))
  refine (wpIn_wide (n := 5)).1 ?_
  have hw1 : w.heap.size + 1 + 1 + 1 + 1 ≤ W1.heap.size := by have := LOWA.out; simpa using this
  have hw2 : W1.heap.size ≤ W2.heap.size := HB2.out.size
  have HR2 := Aside0.mk (R.out)
  have HY2 := Aside0.mk (Y.out)
  have HS2 := Aside0.mk (S.out)
  have HB0 := Aside0.mk B.out
  have HBA := Aside0.mk HS.out
  clear hx hy hr hs hrf hsf HB2 CK
  refine wpIn_rangeFunc_ownH rfl (by omega) (gf := 73) (lb := #[.pointer (some ⟨bE, 0, none⟩), .pointer (some ⟨bN, 0, none⟩), .pointer (some ⟨bH, 0, none⟩), .pointer (some ⟨bP, 0, none⟩)]) rfl trivial (enters_of Try.func73 (by kernel_rfl) rfl)
    (walk1_stops _ (by omega) W1.heap.size bE bN bH bP h HW.out W2 hw2 HS.out) KeepC.trans (fun W l o o' _ h hc _ => KeepC.put W l o o' h hc) (Below.refl _ _) (fun _ => rfl)
    (fun pre W => (findK (toldL h pre) k = none ∧ Blk W (w.heap.size + 1) #[.int .u64 (leftK (toldL h pre) k)] 22) ∧ (Blk W (w.heap.size + 1 + 1) #[.int .i64 0, .int .i64 0, .int .u64 0] 52 ∧ Blk W (w.heap.size + 1 + 1 + 1) #[.int .i64 0] 32) ∧ (Below w.heap.size w W ∧ W2.heap.size ≤ W.heap.size))
    (fun c pre W => c = .ret ∧ (∃ b, findK (toldL h pre) k = some b ∧ Blk W (w.heap.size + 1 + 1) (encB1 b) 52) ∧ Blk W (w.heap.size + 1 + 1 + 1) #[.int .i64 0] 32 ∧ (Below w.heap.size w W ∧ W2.heap.size ≤ W.heap.size))
    (fun s A B row ⟨⟨q1, q2⟩, ⟨q3, q4⟩, q5, q6⟩ hg hr => ⟨⟨q1, q2.grown hg hr⟩, ⟨q3.grown hg hr, q4.grown hg hr⟩, (ownFrom_below (Nat.le_refl _) (by omega)) s A B row q5 hg hr, Nat.le_trans q6 hg.size⟩)
    (fun c s A B row ⟨q0, ⟨b, q1, q2⟩, q4, q5, q6⟩ hg hr => ⟨q0, ⟨b, q1, q2.grown hg hr⟩, q4.grown hg hr, (ownFrom_below (Nat.le_refl _) (by omega)) s A B row q5 hg hr, Nat.le_trans q6 hg.size⟩)
    ⟨⟨rfl, HY2.out⟩, ⟨HR2.out, HS2.out⟩, HB0.out, Nat.le_refl _⟩
    (fun x a' W => ∃ b, a' = ({ tmps := #[.agg #[.int .i64 h.f0, .int .u64 h.f1, .int .u64 h.f2, .int .u64 h.f3, .int .u64 h.f4, .slice A5 h.f5.length c5, .slice A6 h.f6.length c6, .slice A7 h.f7.length c7, .slice A8 h.f8.length c8], .int .u64 k, .pointer (some ⟨w.heap.size, 0, none⟩), .pointer (some ⟨w.heap.size + 1, 0, none⟩), .pointer (some ⟨w.heap.size + 1 + 1, 0, none⟩), .pointer (some ⟨w.heap.size + 1 + 1 + 1, 0, none⟩), .int .i64 0, .pointer (some ⟨b, 0, none⟩), .agg #[.int .i64 h.f0, .int .u64 h.f1, .int .u64 h.f2, .int .u64 h.f3, .int .u64 h.f4, .slice A5 h.f5.length c5, .slice A6 h.f6.length c6, .slice A7 h.f7.length c7, .slice A8 h.f8.length c8], .int .i64 0, .int .i64 0, .bool false, undef, undef, .int .u64 k, .bool true, .agg #[.int .i64 h.f0, .int .u64 h.f1, .int .u64 h.f2, .int .u64 h.f3, .int .u64 h.f4, .slice A5 h.f5.length c5, .slice A6 h.f6.length c6, .slice A7 h.f7.length c7, .slice A8 h.f8.length c8], .func (.func 73) #[] #[.pointer (some ⟨bE, 0, none⟩), .pointer (some ⟨bN, 0, none⟩), .pointer (some ⟨bH, 0, none⟩), .pointer (some ⟨bP, 0, none⟩)], encB ((toldW h).get x), undef, undef, undef, undef, undef, undef, undef, undef, undef, undef], defers := [] } : Act) ∧ BlkF W b (encB1 ((toldW h).get x)) ∧ W2.heap.size ≤ b) (fun x a' s A B row ⟨b, e, hb, hge⟩ hg hr => ⟨b, e, hb.grown hg hr, hge⟩) ?assign ?body ?done ?stop
  case assign =>
    intro l pre x W K hI hK
    have HI_ := Aside0.mk hI
    have HK := Aside0.mk hK
    clear hI hK
    obtain ⟨y, hy⟩ : ∃ y, y = (toldW h).get x := ⟨_, rfl⟩
    have HY := Aside0.mk hy
    simp only [← hy]
    clear hy
    unfold encB
    gi_wp2
    have hbl := below_alloc (Below.refl W.heap.size W) (.cells (encB1 y) 52)
    obtain ⟨⟨q1, q2⟩, ⟨q3, q4⟩, q5, q6⟩ := HI_.out
    refine HK.out _ _ ((KeepsOthers.alloc W (.cells (encB1 y) 52)).from _) (KeepC.of_below hbl) ⟨⟨q1, q2.alloc _⟩, ⟨q3.alloc _, q4.alloc _⟩, below_then q5 q5.size hbl, Nat.le_trans q6 hbl.size⟩ ⟨W.heap.size, ?_, ?_, q6⟩
    · rw [← HY.out]; rfl
    · rw [← HY.out]; exact Blk.new W _ _
  case body =>
    rintro l pre x a' W hl hlr ⟨⟨q1, q2⟩, ⟨q3, q4⟩, q5, q6⟩ ⟨b, rfl, hb, hge⟩ hlt
    have hxin : (toldW h).get x ∈ toldW h := List.get_mem _ _
    obtain ⟨y, hy⟩ : ∃ y, y = (toldW h).get x := ⟨_, rfl⟩
    have HT := Aside0.mk (toldL_snoc h pre x)
    rw [← hy] at hb HT hxin
    simp only [← hy]
    clear hy
    have hfk := findK_app (toldL h pre) [y] k
    have hlk : leftK (toldL h pre ++ [y]) k = leftK (toldL h pre) k - y.n := by rw [leftK_sum, leftK_sum, sumB_snoc]; omega
    have hpos := findK_left (toldL h pre) k (fun b hb => by obtain ⟨i, _, rfl⟩ := List.mem_map.1 hb; exact (toldW_u64 HW.out _ (List.get_mem _ _)).1) C2.out q1
    rw [q1, ← HT.out] at hfk
    rw [← HT.out] at hlk
    simp only [findK] at hfk
    have hyu := toldW_u64 HW.out y hxin
    generalize leftK (toldL h pre) k = kl at *
    unfold encB
    have hc := fun i => Blk.cell q2 i
    have hcf := fun i => blk_frozen q2 i
    have hbc := fun i => Blk.cell hb i
    have hrc := fun i => Blk.cell q3 i
    have hrf := fun i => blk_frozen q3 i
    have hsc := fun i => Blk.cell q4 i
    have hsf := fun i => blk_frozen q4 i
    have K2 := Aside0.mk q2
    have K3 := Aside0.mk q3
    have K4 := Aside0.mk q4
    have K5 := Aside0.mk q5
    have K6 := Aside0.mk q6
    have HBB := Aside0.mk hb
    have HU := Aside0.mk hyu
    have HP := Aside0.mk hpos
    have HF := Aside0.mk hfk
    have HL := Aside0.mk hlk
    clear q1 q2 q3 q4 q5 q6 hb hl hlr hlt hyu hpos hfk hlk hxin
    unfold encB1 at hbc
    by_cases cc : kl ≤ y.n
    · have d3 : decide (kl ≤ y.n) = true := decide_eq_true cc
      have HC3 := Aside0.mk cc
      clear cc
      gi_wp2
      refine ⟨((((KeepsOthers.setCell _ _ _).trans (KeepsOthers.setCell _ _ _)).trans (KeepsOthers.setCell _ _ _)).trans (KeepsOthers.setCell _ _ _)).from _, rfl, ⟨y, ?_, blk_put_ne (three K3.out _ _ _) (by omega) _⟩, ?_, ?_, ?_⟩
      · rw [HF.out, if_pos HC3.out]
      · exact Boxed.set _ (blk_put_ne (j := 2) (blk_put_ne (j := 1) (blk_put_ne (j := 0) K4.out (by omega) _) (by omega) _) (by omega) _)
      · exact (((K5.out.setCell (by simp; omega) _).setCell (by simp; omega) _).setCell (by simp; omega) _).setCell (by simp; omega) _
      · have h6_ := K6.out; simpa [World.setCell] using h6_
    · have d3 : decide (kl ≤ y.n) = false := decide_eq_false cc
      have HC3 := Aside0.mk cc
      clear cc
      have hw_ : IntKind.u64.wrap (kl - y.n) = kl - y.n := by
        have h_ : IntKind.u64.wrap (kl - y.n) = (kl - y.n) % 18446744073709551616 := rfl
        have h1_ := HU.out; have h2_ := HP.out; have h3_ := HC3.out
        unfold u64 at hk h1_
        rw [h_]; omega
      gi_wp2
      refine ⟨(KeepsOthers.setCell _ _ _).from _, KeepC.setCell _ (by omega) _, ⟨?_, ?_⟩, ⟨blk_put_ne K3.out (by omega) _, blk_put_ne K4.out (by omega) _⟩, K5.out.setCell (by show w.heap.size ≤ w.heap.size + 1; omega) _, ?_⟩
      · rw [HF.out, if_neg (by have h3_ := HC3.out; omega)]
      · rw [HL.out]; exact Boxed.set _ K2.out
      · have h6_ := K6.out; simpa [World.setCell] using h6_
  case done =>
    rintro D xs W hD hS ⟨⟨q1, q2⟩, ⟨q3, q4⟩, q5, q6⟩ hK
    rw [toldL_all hS] at q1
    have hf : ans = (⟨0, 0, 0⟩, 11) := by rw [← HANS.out, q1]
    have HF := Aside0.mk hf
    clear hf
    have hrc := fun i => Blk.cell q3 i
    have hrf := fun i => blk_frozen q3 i
    have hsc := fun i => Blk.cell q4 i
    have hsf := fun i => blk_frozen q4 i
    have K3 := Aside0.mk q3
    have K4 := Aside0.mk q4
    have K5 := Aside0.mk q5
    have HK := Aside0.mk hK
    clear q1 q2 q3 q4 q5 q6 hK hS
    go_wp2
    refine ⟨by simp, .inl ⟨_, _, rfl, run_takeDeferred (blk_put_ne (blk_put_ne (j := 2) (blk_put_ne (j := 1) (blk_put_ne (j := 0) HK.out (by omega) _) (by omega) _) (by omega) _) (by omega) _), ?_⟩⟩
    refine ⟨_, results_ci rfl _ _ (w.heap.size + 1 + 1) (w.heap.size + 1 + 1 + 1) 52 #[_, _, _] (0, 0) _ .i64 (.int .i64 11) rfl (blk_putObj_ne (blk_put_ne (three K3.out _ _ _) (by omega) _) (by omega) _) Try.underlying52 rfl (by kernel_rfl) rfl (cell_putObj_ne (cell_put1 K4.out (by omega) _ _ _ _) (by omega) _) Try.underlying32, ?_, ?_⟩
    · rw [HF.out]; rfl
    · exact ((((K5.out.setCell (by simp; omega) _).setCell (by simp; omega) _).setCell (by simp; omega) _).setCell (by simp; omega) _).trans (below_putObj_hi _ _ trivial (by omega))
  case stop =>
    rintro D c pre W hD hS ⟨rfl, ⟨b, q1, q2⟩, q4, q5, q6⟩ hK
    have hf : findK (toldW h) k = some b := by
      rw [toldL_take hS] at q1
      rw [← List.take_append_drop pre.length (toldW h), findK_app, q1]
    have hf : ans = (b, 0) := by rw [← HANS.out, hf]
    have HF := Aside0.mk hf
    have K3 := Aside0.mk q2
    have K4 := Aside0.mk q4
    have K5 := Aside0.mk q5
    have HK := Aside0.mk hK
    clear q1 q2 q4 q5 q6 hK hS hf
    gi_wp2
    refine ⟨by simp, .inl ⟨_, _, rfl, run_takeDeferred HK.out, ?_⟩⟩
    refine ⟨_, results_ci rfl _ _ (w.heap.size + 1 + 1) (w.heap.size + 1 + 1 + 1) 52 (encB1 b) (0, 0) _ .i64 (.int .i64 0) rfl (blk_putObj_ne K3.out (by omega) _) Try.underlying52 rfl (by kernel_rfl) rfl (cell_putObj_ne ((Blk.cell K4.out 0).trans rfl) (by omega) _) Try.underlying32, ?_, ?_⟩
    · rw [HF.out]
    · exact K5.out.trans (below_putObj_hi _ _ trivial (by omega))
end Go.Proofs.Ytfbjjbbhnmoolaa.P
namespace Go.Proofs.Ytfbjjbbhnmoolaa.P
open Go.RowKit Go.Proofs.YtfbjjbbhnmoolaaW.PrintWords Go.Proofs.YtfbjjbbhnmoolaaW.PrintLast Go.Proofs.YtfbjjbbhnmoolaaW.PrintMore
attribute [local go_sem] max2_int min2_int max_two min_two max_three min_three max_four min_four
def cmp_isNaN_int.f (a0 : Int) : Option (Bool) := some (a0 != a0)
set_option maxHeartbeats 8000000 in
set_option maxRecDepth 100000 in
theorem cmp_isNaN_int.calls (a0 : Int) (r : Bool) (w : World) (h : cmp_isNaN_int.f a0 = some r) :
  Calls Try.prog 153 #[.int .i64 a0] w fun e w' => e = .returned (.bool r) ∧ Drawn0 w w' := by
 have H : (some (a0 != a0)) = some r := h
 clear h
 obtain rfl := Option.some.inj H
 go_enter Try.func153, Try.ntmps153
 go_wp2
 go_ret
 exact ⟨by first | rfl | (simp; done) | (simp [*]; done), by repeat (first | exact Drawn0.refl _ | apply Drawn0.step)⟩
def cmp_Compare_int.f (a0 : Int) (a1 : Int) : Option (Int) := (cmp_isNaN_int.f a0).bind fun t101 => ((cmp_isNaN_int.f a1).bind fun t102 => (if t101 = true then (if t102 = true then (some 0) else (some (-1))) else (if t102 = true then (some 1) else (if a0 < a1 then (some (-1)) else (if a0 > a1 then (some 1) else (some 0))))))
set_option maxHeartbeats 8000000 in
set_option maxRecDepth 100000 in
theorem cmp_Compare_int.calls (a0 : Int) (a1 : Int) (r : Int) (w : World) (h : cmp_Compare_int.f a0 a1 = some r) :
  Calls Try.prog 135 #[.int .i64 a0, .int .i64 a1] w fun e w' => e = .returned (.int .i64 r) ∧ Drawn0 w w' := by
 have H : ((cmp_isNaN_int.f a0).bind fun t101 => ((cmp_isNaN_int.f a1).bind fun t102 => (if t101 = true then (if t102 = true then (some 0) else (some (-1))) else (if t102 = true then (some 1) else (if a0 < a1 then (some (-1)) else (if a0 > a1 then (some 1) else (some 0))))))) = some r := h
 clear h
 replace H := Option.bind_eq_some_iff.mp H
 obtain ⟨t101, A30, H⟩ := H
 replace H : ((cmp_isNaN_int.f a1).bind fun t102 => (if t101 = true then (if t102 = true then (some 0) else (some (-1))) else (if t102 = true then (some 1) else (if a0 < a1 then (some (-1)) else (if a0 > a1 then (some 1) else (some 0)))))) = some r := H
 have A3 := Aside0.mk A30
 clear A30
 replace H := Option.bind_eq_some_iff.mp H
 obtain ⟨t102, A40, H⟩ := H
 replace H : (if t101 = true then (if t102 = true then (some 0) else (some (-1))) else (if t102 = true then (some 1) else (if a0 < a1 then (some (-1)) else (if a0 > a1 then (some 1) else (some 0))))) = some r := H
 have A4 := Aside0.mk A40
 clear A40
 by_cases c5 : t101 = true
 ·subst c5
  have H1 : (if t102 = true then (some 0) else (some (-1))) = some r := by rw [if_pos rfl] at H; exact H
  clear H
  have H := H1
  clear H1
  by_cases c6 : t102 = true
  ·subst c6
   have H1 : (some 0) = some r := by rw [if_pos rfl] at H; exact H
   clear H
   have H := H1
   clear H1
   obtain rfl := Option.some.inj H
   go_enter Try.func135, Try.ntmps135
   go_wp2_with (first | ((with_reducible refine gate_callee (f := 153) rfl ?_); refine goesL_ (some 8) rfl rfl Try.func153 (by kernel_rfl) rfl #[.int .i64 a0] rfl (by (try simp only [List.map_toArray, List.map_cons, List.map_nil]); first | done | rfl | (simp only [List.length_drop, List.length_take]; rfl)) ?_; (with_reducible refine (cmp_isNaN_int.calls a0 true _ A3.out).mono ?_); rintro e w' ⟨rfl, ⟨nd, rfl⟩⟩; refine ⟨_, rfl, ?_⟩; clear A3) | ((with_reducible refine gate_callee (f := 153) rfl ?_); refine goesL_ (some 10) rfl rfl Try.func153 (by kernel_rfl) rfl #[.int .i64 a1] rfl (by (try simp only [List.map_toArray, List.map_cons, List.map_nil]); first | done | rfl | (simp only [List.length_drop, List.length_take]; rfl)) ?_; (with_reducible refine (cmp_isNaN_int.calls a1 true _ A4.out).mono ?_); rintro e w' ⟨rfl, ⟨nd, rfl⟩⟩; refine ⟨_, rfl, ?_⟩; clear A4))
   go_ret
   exact ⟨by first | rfl | (simp; done) | (simp [*]; done), by repeat (first | exact Drawn0.refl _ | apply Drawn0.step)⟩
  ·replace c6 := Bool.eq_false_iff.mpr c6
   subst c6
   have H1 : (some (-1)) = some r := by rw [if_neg (show ¬ (false = true) by decide)] at H; exact H
   clear H
   have H := H1
   clear H1
   obtain rfl := Option.some.inj H
   go_enter Try.func135, Try.ntmps135
   go_wp2_with (first | ((with_reducible refine gate_callee (f := 153) rfl ?_); refine goesL_ (some 8) rfl rfl Try.func153 (by kernel_rfl) rfl #[.int .i64 a0] rfl (by (try simp only [List.map_toArray, List.map_cons, List.map_nil]); first | done | rfl | (simp only [List.length_drop, List.length_take]; rfl)) ?_; (with_reducible refine (cmp_isNaN_int.calls a0 true _ A3.out).mono ?_); rintro e w' ⟨rfl, ⟨nd, rfl⟩⟩; refine ⟨_, rfl, ?_⟩; clear A3) | ((with_reducible refine gate_callee (f := 153) rfl ?_); refine goesL_ (some 10) rfl rfl Try.func153 (by kernel_rfl) rfl #[.int .i64 a1] rfl (by (try simp only [List.map_toArray, List.map_cons, List.map_nil]); first | done | rfl | (simp only [List.length_drop, List.length_take]; rfl)) ?_; (with_reducible refine (cmp_isNaN_int.calls a1 false _ A4.out).mono ?_); rintro e w' ⟨rfl, ⟨nd, rfl⟩⟩; refine ⟨_, rfl, ?_⟩; clear A4))
   go_ret
   exact ⟨by first | rfl | (simp; done) | (simp [*]; done), by repeat (first | exact Drawn0.refl _ | apply Drawn0.step)⟩
 ·replace c5 := Bool.eq_false_iff.mpr c5
  subst c5
  have H1 : (if t102 = true then (some 1) else (if a0 < a1 then (some (-1)) else (if a0 > a1 then (some 1) else (some 0)))) = some r := by rw [if_neg (show ¬ (false = true) by decide)] at H; exact H
  clear H
  have H := H1
  clear H1
  by_cases c7 : t102 = true
  ·subst c7
   have H1 : (some 1) = some r := by rw [if_pos rfl] at H; exact H
   clear H
   have H := H1
   clear H1
   obtain rfl := Option.some.inj H
   go_enter Try.func135, Try.ntmps135
   go_wp2_with (first | ((with_reducible refine gate_callee (f := 153) rfl ?_); refine goesL_ (some 8) rfl rfl Try.func153 (by kernel_rfl) rfl #[.int .i64 a0] rfl (by (try simp only [List.map_toArray, List.map_cons, List.map_nil]); first | done | rfl | (simp only [List.length_drop, List.length_take]; rfl)) ?_; (with_reducible refine (cmp_isNaN_int.calls a0 false _ A3.out).mono ?_); rintro e w' ⟨rfl, ⟨nd, rfl⟩⟩; refine ⟨_, rfl, ?_⟩; clear A3) | ((with_reducible refine gate_callee (f := 153) rfl ?_); refine goesL_ (some 10) rfl rfl Try.func153 (by kernel_rfl) rfl #[.int .i64 a1] rfl (by (try simp only [List.map_toArray, List.map_cons, List.map_nil]); first | done | rfl | (simp only [List.length_drop, List.length_take]; rfl)) ?_; (with_reducible refine (cmp_isNaN_int.calls a1 true _ A4.out).mono ?_); rintro e w' ⟨rfl, ⟨nd, rfl⟩⟩; refine ⟨_, rfl, ?_⟩; clear A4))
   go_ret
   exact ⟨by first | rfl | (simp; done) | (simp [*]; done), by repeat (first | exact Drawn0.refl _ | apply Drawn0.step)⟩
  ·replace c7 := Bool.eq_false_iff.mpr c7
   subst c7
   have H1 : (if a0 < a1 then (some (-1)) else (if a0 > a1 then (some 1) else (some 0))) = some r := by rw [if_neg (show ¬ (false = true) by decide)] at H; exact H
   clear H
   have H := H1
   clear H1
   by_cases c8 : a0 < a1
   ·rw [if_pos c8] at H
    have c8b0 : decide (a0 < a1) = true := decide_eq_true c8
    clear c8
    obtain rfl := Option.some.inj H
    go_enter Try.func135, Try.ntmps135
    go_wp2_with (first | ((with_reducible refine gate_callee (f := 153) rfl ?_); refine goesL_ (some 8) rfl rfl Try.func153 (by kernel_rfl) rfl #[.int .i64 a0] rfl (by (try simp only [List.map_toArray, List.map_cons, List.map_nil]); first | done | rfl | (simp only [List.length_drop, List.length_take]; rfl)) ?_; (with_reducible refine (cmp_isNaN_int.calls a0 false _ A3.out).mono ?_); rintro e w' ⟨rfl, ⟨nd, rfl⟩⟩; refine ⟨_, rfl, ?_⟩; clear A3) | ((with_reducible refine gate_callee (f := 153) rfl ?_); refine goesL_ (some 10) rfl rfl Try.func153 (by kernel_rfl) rfl #[.int .i64 a1] rfl (by (try simp only [List.map_toArray, List.map_cons, List.map_nil]); first | done | rfl | (simp only [List.length_drop, List.length_take]; rfl)) ?_; (with_reducible refine (cmp_isNaN_int.calls a1 false _ A4.out).mono ?_); rintro e w' ⟨rfl, ⟨nd, rfl⟩⟩; refine ⟨_, rfl, ?_⟩; clear A4))
    go_ret
    exact ⟨by first | rfl | (simp; done) | (simp [*]; done), by repeat (first | exact Drawn0.refl _ | apply Drawn0.step)⟩
   ·rw [if_neg c8] at H
    have c8b0 : decide (a0 < a1) = false := decide_eq_false c8
    clear c8
    by_cases c9 : a0 > a1
    ·rw [if_pos c9] at H
     have c9b0 : decide (a1 < a0) = true := decide_eq_true c9
     clear c9
     obtain rfl := Option.some.inj H
     go_enter Try.func135, Try.ntmps135
     go_wp2_with (first | ((with_reducible refine gate_callee (f := 153) rfl ?_); refine goesL_ (some 8) rfl rfl Try.func153 (by kernel_rfl) rfl #[.int .i64 a0] rfl (by (try simp only [List.map_toArray, List.map_cons, List.map_nil]); first | done | rfl | (simp only [List.length_drop, List.length_take]; rfl)) ?_; (with_reducible refine (cmp_isNaN_int.calls a0 false _ A3.out).mono ?_); rintro e w' ⟨rfl, ⟨nd, rfl⟩⟩; refine ⟨_, rfl, ?_⟩; clear A3) | ((with_reducible refine gate_callee (f := 153) rfl ?_); refine goesL_ (some 10) rfl rfl Try.func153 (by kernel_rfl) rfl #[.int .i64 a1] rfl (by (try simp only [List.map_toArray, List.map_cons, List.map_nil]); first | done | rfl | (simp only [List.length_drop, List.length_take]; rfl)) ?_; (with_reducible refine (cmp_isNaN_int.calls a1 false _ A4.out).mono ?_); rintro e w' ⟨rfl, ⟨nd, rfl⟩⟩; refine ⟨_, rfl, ?_⟩; clear A4))
     go_ret
     exact ⟨by first | rfl | (simp; done) | (simp [*]; done), by repeat (first | exact Drawn0.refl _ | apply Drawn0.step)⟩
    ·rw [if_neg c9] at H
     have c9b0 : decide (a1 < a0) = false := decide_eq_false c9
     clear c9
     obtain rfl := Option.some.inj H
     go_enter Try.func135, Try.ntmps135
     go_wp2_with (first | ((with_reducible refine gate_callee (f := 153) rfl ?_); refine goesL_ (some 8) rfl rfl Try.func153 (by kernel_rfl) rfl #[.int .i64 a0] rfl (by (try simp only [List.map_toArray, List.map_cons, List.map_nil]); first | done | rfl | (simp only [List.length_drop, List.length_take]; rfl)) ?_; (with_reducible refine (cmp_isNaN_int.calls a0 false _ A3.out).mono ?_); rintro e w' ⟨rfl, ⟨nd, rfl⟩⟩; refine ⟨_, rfl, ?_⟩; clear A3) | ((with_reducible refine gate_callee (f := 153) rfl ?_); refine goesL_ (some 10) rfl rfl Try.func153 (by kernel_rfl) rfl #[.int .i64 a1] rfl (by (try simp only [List.map_toArray, List.map_cons, List.map_nil]); first | done | rfl | (simp only [List.length_drop, List.length_take]; rfl)) ?_; (with_reducible refine (cmp_isNaN_int.calls a1 false _ A4.out).mono ?_); rintro e w' ⟨rfl, ⟨nd, rfl⟩⟩; refine ⟨_, rfl, ?_⟩; clear A4))
     go_ret
     exact ⟨by first | rfl | (simp; done) | (simp [*]; done), by repeat (first | exact Drawn0.refl _ | apply Drawn0.step)⟩
def rank_third.f (a0 : Int) : Option (Int) := if a0 = 1 then (some 0) else (if a0 = 2 then (some 1) else (some 2))
set_option maxHeartbeats 8000000 in
set_option maxRecDepth 100000 in
theorem rank_third.calls (a0 : Int) (r : Int) (w : World) (h : rank_third.f a0 = some r) :
  Calls Try.prog 136 #[.int .i64 a0] w fun e w' => e = .returned (.int .i64 r) ∧ Drawn0 w w' := by
 have H : (if a0 = 1 then (some 0) else (if a0 = 2 then (some 1) else (some 2))) = some r := h
 clear h
 by_cases c2 : a0 = 1
 ·rw [if_pos c2] at H
  have c2b0 : (a0 == 1) = true := beq_iff_eq.mpr c2
  have c2b1 : (a0 != 1) = false := bne_eq_false_iff_eq.mpr c2
  clear c2
  obtain rfl := Option.some.inj H
  go_enter Try.func136, Try.ntmps136
  go_wp2
  go_ret
  exact ⟨by first | rfl | (simp; done) | (simp [*]; done), by repeat (first | exact Drawn0.refl _ | apply Drawn0.step)⟩
 ·rw [if_neg c2] at H
  have c2b0 : (a0 == 1) = false := beq_eq_false_iff_ne.mpr c2
  have c2b1 : (a0 != 1) = true := bne_iff_ne.mpr c2
  by_cases c3 : a0 = 2
  ·rw [if_pos c3] at H
   have c3b0 : (a0 == 2) = true := beq_iff_eq.mpr c3
   have c3b1 : (a0 != 2) = false := bne_eq_false_iff_eq.mpr c3
   clear c3
   obtain rfl := Option.some.inj H
   go_enter Try.func136, Try.ntmps136
   go_wp2
   go_ret
   exact ⟨by first | rfl | (simp; done) | (simp [*]; done), by repeat (first | exact Drawn0.refl _ | apply Drawn0.step)⟩
  ·rw [if_neg c3] at H
   have c3b0 : (a0 == 2) = false := beq_eq_false_iff_ne.mpr c3
   have c3b1 : (a0 != 2) = true := bne_iff_ne.mpr c3
   obtain rfl := Option.some.inj H
   go_enter Try.func136, Try.ntmps136
   go_wp2
   go_ret
   exact ⟨by first | rfl | (simp; done) | (simp [*]; done), by repeat (first | exact Drawn0.refl _ | apply Drawn0.step)⟩
def rank_behind.f (a0_0 : Int) (a0_1 : Int) (a0_2 : Int) (a1 : Int) (a2 : Int) : Option (Bool) := (rank_third.f a0_0).bind fun t102 => ((rank_third.f a1).bind fun t103 => ((cmp_Compare_int.f t102 t103).bind fun t104 => (if t104 = 0 then (if a1 = 1 then (some (decide (a0_1 < a2))) else (if a1 = 0 then (some (decide (a0_1 > a2))) else (some false))) else (some (decide (t104 > 0))))))
set_option maxHeartbeats 8000000 in
set_option maxRecDepth 100000 in
theorem rank_behind.calls (a0_0 : Int) (a0_1 : Int) (a0_2 : Int) (a1 : Int) (a2 : Int) (r : Bool) (w : World) (h : rank_behind.f a0_0 a0_1 a0_2 a1 a2 = some r) :
  Calls Try.prog 109 #[.agg #[.int .i64 a0_0, .int .i64 a0_1, .int .u64 a0_2], .int .i64 a1, .int .i64 a2] w fun e w' => e = .returned (.bool r) ∧ Below w.heap.size w w' := by
 have hu52 := Try.underlying52
 have HB := Aside0.mk (Below.refl w.heap.size w)
 have H : ((rank_third.f a0_0).bind fun t102 => ((rank_third.f a1).bind fun t103 => ((cmp_Compare_int.f t102 t103).bind fun t104 => (if t104 = 0 then (if a1 = 1 then (some (decide (a0_1 < a2))) else (if a1 = 0 then (some (decide (a0_1 > a2))) else (some false))) else (some (decide (t104 > 0))))))) = some r := h
 clear h
 replace H := Option.bind_eq_some_iff.mp H
 obtain ⟨t102, A40, H⟩ := H
 replace H : ((rank_third.f a1).bind fun t103 => ((cmp_Compare_int.f t102 t103).bind fun t104 => (if t104 = 0 then (if a1 = 1 then (some (decide (a0_1 < a2))) else (if a1 = 0 then (some (decide (a0_1 > a2))) else (some false))) else (some (decide (t104 > 0)))))) = some r := H
 have A4 := Aside0.mk A40
 clear A40
 replace H := Option.bind_eq_some_iff.mp H
 obtain ⟨t103, A50, H⟩ := H
 replace H : ((cmp_Compare_int.f t102 t103).bind fun t104 => (if t104 = 0 then (if a1 = 1 then (some (decide (a0_1 < a2))) else (if a1 = 0 then (some (decide (a0_1 > a2))) else (some false))) else (some (decide (t104 > 0))))) = some r := H
 have A5 := Aside0.mk A50
 clear A50
 replace H := Option.bind_eq_some_iff.mp H
 obtain ⟨t104, A60, H⟩ := H
 replace H : (if t104 = 0 then (if a1 = 1 then (some (decide (a0_1 < a2))) else (if a1 = 0 then (some (decide (a0_1 > a2))) else (some false))) else (some (decide (t104 > 0)))) = some r := H
 have A6 := Aside0.mk A60
 clear A60
 by_cases c7 : t104 = 0
 ·rw [if_pos c7] at H
  have c7b0 : (t104 == 0) = true := beq_iff_eq.mpr c7
  have c7b1 : (t104 != 0) = false := bne_eq_false_iff_eq.mpr c7
  clear c7
  by_cases c8 : a1 = 1
  ·rw [if_pos c8] at H
   have c8b0 : (a1 == 1) = true := beq_iff_eq.mpr c8
   have c8b1 : (a1 != 1) = false := bne_eq_false_iff_eq.mpr c8
   clear c8
   obtain rfl := Option.some.inj H
   go_enter Try.func109, Try.ntmps109
   go_wp2_with (first | ((with_reducible refine gate_dst (N := 3) rfl ?_); refine box_event ?hg (N := 3) ?hd (cs := #[.int .i64 a0_0, .int .i64 a0_1, .int .u64 a0_2]) (t := 52) ?hr ?_; (case hd => rfl); (case hg => rfl); (case hr => first | (go_simp; done) | (go_simp; rfl)); intro gb101 hg w9 hbox hb; have n0_ := Aside0.mk (below_step (by repeat (first | (with_reducible first | exact HB.out | apply below_alloc | apply pw_below_drewN | apply below_drew1) | exact HB.out)) hb); have n1_ := Aside0.mk (hbox); have n2_ := Aside0.mk ((by rw [hg]; exact (below_size (by repeat (first | (with_reducible first | exact HB.out | apply below_alloc | apply pw_below_drewN | apply below_drew1) | exact HB.out))) : w.heap.size ≤ gb101)); have n3_ := Aside0.mk ((by rw [hg]; exact (below_size (by repeat (first | (with_reducible first | exact HB.out | apply below_alloc | apply pw_below_drewN | apply below_drew1) | exact HB.out))) : w.heap.size ≤ gb101)); clear HB; have HB := n0_; have BK101 := n1_; have GW101 := n2_; have GE101 := n3_; clear n0_ n1_ n2_ n3_; clear hb hbox hg; have hcz10_0 : w9.cell? ⟨gb101, 0, none⟩ = some (.int .i64 a0_0) := (blk_cell BK101.out 0).trans rfl; have hcz10_1 : w9.cell? ⟨gb101, 1, none⟩ = some (.int .i64 a0_1) := (blk_cell BK101.out 1).trans rfl; have hcz10_2 : w9.cell? ⟨gb101, 2, none⟩ = some (.int .u64 a0_2) := (blk_cell BK101.out 2).trans rfl; have hfz10_0 := blk_frozen BK101.out 0; have hfz10_1 := blk_frozen BK101.out 1; have hfz10_2 := blk_frozen BK101.out 2) | ((with_reducible refine gate_callee (f := 136) rfl ?_); refine goesL_ (some 10) rfl rfl Try.func136 (by kernel_rfl) rfl #[.int .i64 a0_0] rfl (by (try simp only [List.map_toArray, List.map_cons, List.map_nil]); first | done | rfl | (simp only [List.length_drop, List.length_take]; rfl)) ?_; (with_reducible refine (rank_third.calls a0_0 t102 _ A4.out).mono ?_); rintro e w' ⟨rfl, ⟨nd, rfl⟩⟩; refine ⟨_, rfl, ?_⟩; clear A4) | ((with_reducible refine gate_callee (f := 136) rfl ?_); refine goesL_ (some 12) rfl rfl Try.func136 (by kernel_rfl) rfl #[.int .i64 a1] rfl (by (try simp only [List.map_toArray, List.map_cons, List.map_nil]); first | done | rfl | (simp only [List.length_drop, List.length_take]; rfl)) ?_; (with_reducible refine (rank_third.calls a1 t103 _ A5.out).mono ?_); rintro e w' ⟨rfl, ⟨nd, rfl⟩⟩; refine ⟨_, rfl, ?_⟩; clear A5) | ((with_reducible refine gate_callee (f := 135) rfl ?_); refine goesL_ (some 13) rfl rfl Try.func135 (by kernel_rfl) rfl #[.int .i64 t102, .int .i64 t103] rfl (by (try simp only [List.map_toArray, List.map_cons, List.map_nil]); first | done | rfl | (simp only [List.length_drop, List.length_take]; rfl)) ?_; (with_reducible refine (cmp_Compare_int.calls t102 t103 t104 _ A6.out).mono ?_); rintro e w' ⟨rfl, ⟨nd, rfl⟩⟩; refine ⟨_, rfl, ?_⟩; clear A6))
   go_ret
   exact ⟨by first | rfl | (simp [errW_none, errW_some] <;> rfl) | (simp [*, errW_none, errW_some] <;> rfl), by repeat (first | (with_reducible first | exact HB.out | apply below_alloc | apply pw_below_drewN | apply below_drew1 | refine below_set ?_ GE101.out) | exact HB.out)⟩
  ·rw [if_neg c8] at H
   have c8b0 : (a1 == 1) = false := beq_eq_false_iff_ne.mpr c8
   have c8b1 : (a1 != 1) = true := bne_iff_ne.mpr c8
   by_cases c11 : a1 = 0
   ·rw [if_pos c11] at H
    have c11b0 : (a1 == 0) = true := beq_iff_eq.mpr c11
    have c11b1 : (a1 != 0) = false := bne_eq_false_iff_eq.mpr c11
    clear c11
    obtain rfl := Option.some.inj H
    go_enter Try.func109, Try.ntmps109
    go_wp2_with (first | ((with_reducible refine gate_dst (N := 3) rfl ?_); refine box_event ?hg (N := 3) ?hd (cs := #[.int .i64 a0_0, .int .i64 a0_1, .int .u64 a0_2]) (t := 52) ?hr ?_; (case hd => rfl); (case hg => rfl); (case hr => first | (go_simp; done) | (go_simp; rfl)); intro gb101 hg w12 hbox hb; have n0_ := Aside0.mk (below_step (by repeat (first | (with_reducible first | exact HB.out | apply below_alloc | apply pw_below_drewN | apply below_drew1) | exact HB.out)) hb); have n1_ := Aside0.mk (hbox); have n2_ := Aside0.mk ((by rw [hg]; exact (below_size (by repeat (first | (with_reducible first | exact HB.out | apply below_alloc | apply pw_below_drewN | apply below_drew1) | exact HB.out))) : w.heap.size ≤ gb101)); have n3_ := Aside0.mk ((by rw [hg]; exact (below_size (by repeat (first | (with_reducible first | exact HB.out | apply below_alloc | apply pw_below_drewN | apply below_drew1) | exact HB.out))) : w.heap.size ≤ gb101)); clear HB; have HB := n0_; have BK101 := n1_; have GW101 := n2_; have GE101 := n3_; clear n0_ n1_ n2_ n3_; clear hb hbox hg; have hcz13_0 : w12.cell? ⟨gb101, 0, none⟩ = some (.int .i64 a0_0) := (blk_cell BK101.out 0).trans rfl; have hcz13_1 : w12.cell? ⟨gb101, 1, none⟩ = some (.int .i64 a0_1) := (blk_cell BK101.out 1).trans rfl; have hcz13_2 : w12.cell? ⟨gb101, 2, none⟩ = some (.int .u64 a0_2) := (blk_cell BK101.out 2).trans rfl; have hfz13_0 := blk_frozen BK101.out 0; have hfz13_1 := blk_frozen BK101.out 1; have hfz13_2 := blk_frozen BK101.out 2) | ((with_reducible refine gate_callee (f := 136) rfl ?_); refine goesL_ (some 10) rfl rfl Try.func136 (by kernel_rfl) rfl #[.int .i64 a0_0] rfl (by (try simp only [List.map_toArray, List.map_cons, List.map_nil]); first | done | rfl | (simp only [List.length_drop, List.length_take]; rfl)) ?_; (with_reducible refine (rank_third.calls a0_0 t102 _ A4.out).mono ?_); rintro e w' ⟨rfl, ⟨nd, rfl⟩⟩; refine ⟨_, rfl, ?_⟩; clear A4) | ((with_reducible refine gate_callee (f := 136) rfl ?_); refine goesL_ (some 12) rfl rfl Try.func136 (by kernel_rfl) rfl #[.int .i64 a1] rfl (by (try simp only [List.map_toArray, List.map_cons, List.map_nil]); first | done | rfl | (simp only [List.length_drop, List.length_take]; rfl)) ?_; (with_reducible refine (rank_third.calls a1 t103 _ A5.out).mono ?_); rintro e w' ⟨rfl, ⟨nd, rfl⟩⟩; refine ⟨_, rfl, ?_⟩; clear A5) | ((with_reducible refine gate_callee (f := 135) rfl ?_); refine goesL_ (some 13) rfl rfl Try.func135 (by kernel_rfl) rfl #[.int .i64 t102, .int .i64 t103] rfl (by (try simp only [List.map_toArray, List.map_cons, List.map_nil]); first | done | rfl | (simp only [List.length_drop, List.length_take]; rfl)) ?_; (with_reducible refine (cmp_Compare_int.calls t102 t103 t104 _ A6.out).mono ?_); rintro e w' ⟨rfl, ⟨nd, rfl⟩⟩; refine ⟨_, rfl, ?_⟩; clear A6))
    go_ret
    exact ⟨by first | rfl | (simp [errW_none, errW_some] <;> rfl) | (simp [*, errW_none, errW_some] <;> rfl), by repeat (first | (with_reducible first | exact HB.out | apply below_alloc | apply pw_below_drewN | apply below_drew1 | refine below_set ?_ GE101.out) | exact HB.out)⟩
   ·rw [if_neg c11] at H
    have c11b0 : (a1 == 0) = false := beq_eq_false_iff_ne.mpr c11
    have c11b1 : (a1 != 0) = true := bne_iff_ne.mpr c11
    obtain rfl := Option.some.inj H
    go_enter Try.func109, Try.ntmps109
    go_wp2_with (first | ((with_reducible refine gate_dst (N := 3) rfl ?_); refine box_event ?hg (N := 3) ?hd (cs := #[.int .i64 a0_0, .int .i64 a0_1, .int .u64 a0_2]) (t := 52) ?hr ?_; (case hd => rfl); (case hg => rfl); (case hr => first | (go_simp; done) | (go_simp; rfl)); intro gb101 hg w14 hbox hb; have n0_ := Aside0.mk (below_step (by repeat (first | (with_reducible first | exact HB.out | apply below_alloc | apply pw_below_drewN | apply below_drew1) | exact HB.out)) hb); have n1_ := Aside0.mk (hbox); have n2_ := Aside0.mk ((by rw [hg]; exact (below_size (by repeat (first | (with_reducible first | exact HB.out | apply below_alloc | apply pw_below_drewN | apply below_drew1) | exact HB.out))) : w.heap.size ≤ gb101)); have n3_ := Aside0.mk ((by rw [hg]; exact (below_size (by repeat (first | (with_reducible first | exact HB.out | apply below_alloc | apply pw_below_drewN | apply below_drew1) | exact HB.out))) : w.heap.size ≤ gb101)); clear HB; have HB := n0_; have BK101 := n1_; have GW101 := n2_; have GE101 := n3_; clear n0_ n1_ n2_ n3_; clear hb hbox hg; have hcz15_0 : w14.cell? ⟨gb101, 0, none⟩ = some (.int .i64 a0_0) := (blk_cell BK101.out 0).trans rfl; have hcz15_1 : w14.cell? ⟨gb101, 1, none⟩ = some (.int .i64 a0_1) := (blk_cell BK101.out 1).trans rfl; have hcz15_2 : w14.cell? ⟨gb101, 2, none⟩ = some (.int .u64 a0_2) := (blk_cell BK101.out 2).trans rfl; have hfz15_0 := blk_frozen BK101.out 0; have hfz15_1 := blk_frozen BK101.out 1; have hfz15_2 := blk_frozen BK101.out 2) | ((with_reducible refine gate_callee (f := 136) rfl ?_); refine goesL_ (some 10) rfl rfl Try.func136 (by kernel_rfl) rfl #[.int .i64 a0_0] rfl (by (try simp only [List.map_toArray, List.map_cons, List.map_nil]); first | done | rfl | (simp only [List.length_drop, List.length_take]; rfl)) ?_; (with_reducible refine (rank_third.calls a0_0 t102 _ A4.out).mono ?_); rintro e w' ⟨rfl, ⟨nd, rfl⟩⟩; refine ⟨_, rfl, ?_⟩; clear A4) | ((with_reducible refine gate_callee (f := 136) rfl ?_); refine goesL_ (some 12) rfl rfl Try.func136 (by kernel_rfl) rfl #[.int .i64 a1] rfl (by (try simp only [List.map_toArray, List.map_cons, List.map_nil]); first | done | rfl | (simp only [List.length_drop, List.length_take]; rfl)) ?_; (with_reducible refine (rank_third.calls a1 t103 _ A5.out).mono ?_); rintro e w' ⟨rfl, ⟨nd, rfl⟩⟩; refine ⟨_, rfl, ?_⟩; clear A5) | ((with_reducible refine gate_callee (f := 135) rfl ?_); refine goesL_ (some 13) rfl rfl Try.func135 (by kernel_rfl) rfl #[.int .i64 t102, .int .i64 t103] rfl (by (try simp only [List.map_toArray, List.map_cons, List.map_nil]); first | done | rfl | (simp only [List.length_drop, List.length_take]; rfl)) ?_; (with_reducible refine (cmp_Compare_int.calls t102 t103 t104 _ A6.out).mono ?_); rintro e w' ⟨rfl, ⟨nd, rfl⟩⟩; refine ⟨_, rfl, ?_⟩; clear A6))
    go_ret
    exact ⟨by first | rfl | (simp [errW_none, errW_some] <;> rfl) | (simp [*, errW_none, errW_some] <;> rfl), by repeat (first | (with_reducible first | exact HB.out | apply below_alloc | apply pw_below_drewN | apply below_drew1 | refine below_set ?_ GE101.out) | exact HB.out)⟩
 ·rw [if_neg c7] at H
  have c7b0 : (t104 == 0) = false := beq_eq_false_iff_ne.mpr c7
  have c7b1 : (t104 != 0) = true := bne_iff_ne.mpr c7
  obtain rfl := Option.some.inj H
  go_enter Try.func109, Try.ntmps109
  go_wp2_with (first | ((with_reducible refine gate_dst (N := 3) rfl ?_); refine box_event ?hg (N := 3) ?hd (cs := #[.int .i64 a0_0, .int .i64 a0_1, .int .u64 a0_2]) (t := 52) ?hr ?_; (case hd => rfl); (case hg => rfl); (case hr => first | (go_simp; done) | (go_simp; rfl)); intro gb101 hg w16 hbox hb; have n0_ := Aside0.mk (below_step (by repeat (first | (with_reducible first | exact HB.out | apply below_alloc | apply pw_below_drewN | apply below_drew1) | exact HB.out)) hb); have n1_ := Aside0.mk (hbox); have n2_ := Aside0.mk ((by rw [hg]; exact (below_size (by repeat (first | (with_reducible first | exact HB.out | apply below_alloc | apply pw_below_drewN | apply below_drew1) | exact HB.out))) : w.heap.size ≤ gb101)); have n3_ := Aside0.mk ((by rw [hg]; exact (below_size (by repeat (first | (with_reducible first | exact HB.out | apply below_alloc | apply pw_below_drewN | apply below_drew1) | exact HB.out))) : w.heap.size ≤ gb101)); clear HB; have HB := n0_; have BK101 := n1_; have GW101 := n2_; have GE101 := n3_; clear n0_ n1_ n2_ n3_; clear hb hbox hg; have hcz17_0 : w16.cell? ⟨gb101, 0, none⟩ = some (.int .i64 a0_0) := (blk_cell BK101.out 0).trans rfl; have hcz17_1 : w16.cell? ⟨gb101, 1, none⟩ = some (.int .i64 a0_1) := (blk_cell BK101.out 1).trans rfl; have hcz17_2 : w16.cell? ⟨gb101, 2, none⟩ = some (.int .u64 a0_2) := (blk_cell BK101.out 2).trans rfl; have hfz17_0 := blk_frozen BK101.out 0; have hfz17_1 := blk_frozen BK101.out 1; have hfz17_2 := blk_frozen BK101.out 2) | ((with_reducible refine gate_callee (f := 136) rfl ?_); refine goesL_ (some 10) rfl rfl Try.func136 (by kernel_rfl) rfl #[.int .i64 a0_0] rfl (by (try simp only [List.map_toArray, List.map_cons, List.map_nil]); first | done | rfl | (simp only [List.length_drop, List.length_take]; rfl)) ?_; (with_reducible refine (rank_third.calls a0_0 t102 _ A4.out).mono ?_); rintro e w' ⟨rfl, ⟨nd, rfl⟩⟩; refine ⟨_, rfl, ?_⟩; clear A4) | ((with_reducible refine gate_callee (f := 136) rfl ?_); refine goesL_ (some 12) rfl rfl Try.func136 (by kernel_rfl) rfl #[.int .i64 a1] rfl (by (try simp only [List.map_toArray, List.map_cons, List.map_nil]); first | done | rfl | (simp only [List.length_drop, List.length_take]; rfl)) ?_; (with_reducible refine (rank_third.calls a1 t103 _ A5.out).mono ?_); rintro e w' ⟨rfl, ⟨nd, rfl⟩⟩; refine ⟨_, rfl, ?_⟩; clear A5) | ((with_reducible refine gate_callee (f := 135) rfl ?_); refine goesL_ (some 13) rfl rfl Try.func135 (by kernel_rfl) rfl #[.int .i64 t102, .int .i64 t103] rfl (by (try simp only [List.map_toArray, List.map_cons, List.map_nil]); first | done | rfl | (simp only [List.length_drop, List.length_take]; rfl)) ?_; (with_reducible refine (cmp_Compare_int.calls t102 t103 t104 _ A6.out).mono ?_); rintro e w' ⟨rfl, ⟨nd, rfl⟩⟩; refine ⟨_, rfl, ?_⟩; clear A6))
  go_ret
  exact ⟨by first | rfl | (simp [errW_none, errW_some] <;> rfl) | (simp [*, errW_none, errW_some] <;> rfl), by repeat (first | (with_reducible first | exact HB.out | apply below_alloc | apply pw_below_drewN | apply below_drew1 | refine below_set ?_ GE101.out) | exact HB.out)⟩
end Go.Proofs.Ytfbjjbbhnmoolaa.P
namespace Go.Proofs.Ytfbjjbbhnmoolaa.P
open Go.RowKit Go.Shelf Go.Proofs.YtfbjjbbhnmoolaaW.PrintWords Go.Proofs.YtfbjjbbhnmoolaaW.PrintLast Go.Proofs.YtfbjjbbhnmoolaaW.PrintMore
attribute [local go_sem] Oper.semAt_some
def thirdI (s : Int) : Int := if s = 1 then 0 else if s = 2 then 1 else 2
def behindB (b : Bk) (side place : Int) : Bool := if thirdI b.s = thirdI side then (if side = 1 then decide (b.p < place) else if side = 0 then decide (b.p > place) else false) else decide (thirdI b.s > thirdI side)
theorem third_eq (s : Int) : rank_third.f s = some (thirdI s) := by
  unfold rank_third.f thirdI
  by_cases h : s = 1
  · rw [if_pos h, if_pos h]
  · rw [if_neg h, if_neg h]
    by_cases k : s = 2
    · rw [if_pos k, if_pos k]
    · rw [if_neg k, if_neg k]
theorem behind_eq (b : Bk) (side place : Int) : rank_behind.f b.s b.p b.n side place = some (behindB b side place) := by
  unfold rank_behind.f behindB
  rw [third_eq, third_eq]
  simp only [Option.bind_some]
  have hc : cmp_Compare_int.f (thirdI b.s) (thirdI side) = some (if thirdI b.s < thirdI side then -1 else if thirdI b.s > thirdI side then 1 else 0) := by
    unfold cmp_Compare_int.f
    simp [cmp_isNaN_int.f]
    by_cases h1 : thirdI b.s < thirdI side
    · rw [if_pos h1, if_pos h1]
    · rw [if_neg h1, if_neg h1]
      by_cases h2 : thirdI side < thirdI b.s
      · rw [if_pos h2, if_pos h2]
      · rw [if_neg h2, if_neg h2]
  rw [hc]
  simp only [Option.bind_some]
  by_cases h1 : thirdI b.s < thirdI side
  · have e : ¬ thirdI b.s = thirdI side := by omega
    have e2 : ¬ thirdI side < thirdI b.s := by omega
    simp [h1, e, e2]
  · by_cases h2 : thirdI side < thirdI b.s
    · have e : ¬ thirdI b.s = thirdI side := by omega
      simp [h1, e, h2]
    · have e : thirdI b.s = thirdI side := by omega
      simp only [e, Int.lt_irrefl, gt_iff_lt, if_false, if_true]
      by_cases k1 : side = 1
      · rw [if_pos k1, if_pos k1]
      · rw [if_neg k1, if_neg k1]
        by_cases k2 : side = 0
        · rw [if_pos k2, if_pos k2]
        · rw [if_neg k2, if_neg k2]
theorem takeWhile_all {α : Type} {p : α → Bool} : ∀ {l : List α}, (∀ b ∈ l, p b = true) → l.takeWhile p = l
  | [], _ => rfl
  | b :: l, h => by rw [List.takeWhile_cons, if_pos (h b (List.mem_cons_self ..)), takeWhile_all (fun x hx => h x (List.mem_cons_of_mem _ hx))]
theorem takeWhile_stop {α : Type} {p : α → Bool} : ∀ {l : List α} {x : α} {r : List α}, (∀ b ∈ l, p b = true) → p x = false → (l ++ x :: r).takeWhile p = l
  | [], x, r, _, h => by rw [List.nil_append, List.takeWhile_cons, if_neg (by rw [h]; decide)]
  | b :: l, x, r, h, h2 => by rw [List.cons_append, List.takeWhile_cons, if_pos (h b (List.mem_cons_self ..)), takeWhile_stop (fun x hx => h x (List.mem_cons_of_mem _ hx)) h2]
def belowR (h : Hi) (side place : Int) : Int × Int := if checkR h = 0 then (if side < 0 ∨ side > 2 then (0, 11) else (IntKind.u64.wrap (sumB ((toldW h).takeWhile (fun b => !behindB b side place))), 0)) else (0, checkR h)
set_option maxHeartbeats 8000000 in
set_option maxRecDepth 100000 in
theorem below_c (h : Hi) (hw : wfH h) (side place : Int) (w : World) (v : Value) (hv : HI w v h) : Calls Try.prog 78 #[v, .int .i64 side, .int .i64 place] w fun e w' =>
    e = .returned (.tuple #[.int .u64 (belowR h side place).1, .int .i64 (belowR h side place).2]) ∧ Below w.heap.size w w' := by
  have hud := Try.underlying26
  have hub := Try.underlying52
  obtain ⟨A5, c5, A6, c6, A7, c7, A8, c8, e, -⟩ := hv.open_
  subst e
  have hal0 := below_alloc (below_alloc (below_alloc (Below.refl w.heap.size w) (.cells #[.int .i64 h.f0, .int .u64 h.f1, .int .u64 h.f2, .int .u64 h.f3, .int .u64 h.f4, .slice A5 h.f5.length c5, .slice A6 h.f6.length c6, .slice A7 h.f7.length c7, .slice A8 h.f8.length c8] 26)) (.cells #[.int .i64 side] 3)) (.cells #[.int .i64 place] 3)
  have HV := Aside0.mk (hv.below hal0)
  have X := Aside0.mk ((((Blk.new w #[.int .i64 h.f0, .int .u64 h.f1, .int .u64 h.f2, .int .u64 h.f3, .int .u64 h.f4, .slice A5 h.f5.length c5, .slice A6 h.f6.length c6, .slice A7 h.f7.length c7, .slice A8 h.f8.length c8] 26).alloc (.cells #[.int .i64 side] 3)).alloc (.cells #[.int .i64 place] 3)))
  have hx := fun i => X.out.cell i
  have Y := Aside0.mk ((Blk.at1 (w := w) (.cells #[.int .i64 h.f0, .int .u64 h.f1, .int .u64 h.f2, .int .u64 h.f3, .int .u64 h.f4, .slice A5 h.f5.length c5, .slice A6 h.f6.length c6, .slice A7 h.f7.length c7, .slice A8 h.f8.length c8] 26) #[.int .i64 side] 3).alloc (.cells #[.int .i64 place] 3))
  have hy := fun i => Y.out.cell i
  have Z := Aside0.mk (at3 w (.cells #[.int .i64 h.f0, .int .u64 h.f1, .int .u64 h.f2, .int .u64 h.f3, .int .u64 h.f4, .slice A5 h.f5.length c5, .slice A6 h.f6.length c6, .slice A7 h.f7.length c7, .slice A8 h.f8.length c8] 26) (.cells #[.int .i64 side] 3) #[.int .i64 place] 3)
  have hz := fun i => Z.out.cell i
  have B := Aside0.mk hal0
  have CK := Aside0.mk (check_c h hw)
  have WK := Aside0.mk (walk_c h hw)
  have HW := Aside0.mk hw
  clear hv hal0 hw
  unfold belowR
  by_cases c1 : checkR h = 0
  rotate_left
  · rw [if_neg c1]
    generalize checkR h = ec at *
    have d1 : (ec != 0) = true := bne_iff_ne.2 c1
    clear c1 WK
    go_enter Try.func78, Try.ntmps78
    go_wp2_with (first | (go_at_call 50; (with_reducible refine (CK.out _ _ HV.out).mono ?_); rintro e W1 ⟨rfl, hb⟩; replace B := Aside0.mk (below_then B.out B.out.size hb); replace HV := Aside0.mk (HV.out.below hb); replace X := Aside0.mk (X.out.below hb); replace hx := fun i => X.out.cell i; replace Y := Aside0.mk (Y.out.below hb); replace hy := fun i => Y.out.cell i; replace Z := Aside0.mk (Z.out.below hb); replace hz := fun i => Z.out.cell i; have hxa := fun i => (X.out.alloc (.cells #[.int .u64 0] 22)).cell i; have LOWA := Aside0.mk hb.size; clear hb))
    go_ret2
    exact ⟨rfl, B.out⟩
  rw [if_pos c1]
  rw [c1] at CK
  have HC := Aside0.mk c1
  clear c1
  by_cases c2 : side < 0
  · rw [if_pos (.inl c2)]
    have d2 : decide (side < 0) = true := decide_eq_true c2
    clear WK c2
    go_enter Try.func78, Try.ntmps78
    go_wp2_with (first | (go_at_call 50; (with_reducible refine (CK.out _ _ HV.out).mono ?_); rintro e W1 ⟨rfl, hb⟩; replace B := Aside0.mk (below_then B.out B.out.size hb); replace HV := Aside0.mk (HV.out.below hb); replace X := Aside0.mk (X.out.below hb); replace hx := fun i => X.out.cell i; replace Y := Aside0.mk (Y.out.below hb); replace hy := fun i => Y.out.cell i; replace Z := Aside0.mk (Z.out.below hb); replace hz := fun i => Z.out.cell i; have hxa := fun i => (X.out.alloc (.cells #[.int .u64 0] 22)).cell i; have LOWA := Aside0.mk hb.size; clear hb))
    go_ret2
    exact ⟨rfl, B.out⟩
  by_cases c3 : 2 < side
  · rw [if_pos (.inr c3)]
    have d2 : decide (side < 0) = false := decide_eq_false c2
    have d3 : decide (2 < side) = true := decide_eq_true c3
    clear WK c2 c3
    go_enter Try.func78, Try.ntmps78
    go_wp2_with (first | (go_at_call 50; (with_reducible refine (CK.out _ _ HV.out).mono ?_); rintro e W1 ⟨rfl, hb⟩; replace B := Aside0.mk (below_then B.out B.out.size hb); replace HV := Aside0.mk (HV.out.below hb); replace X := Aside0.mk (X.out.below hb); replace hx := fun i => X.out.cell i; replace Y := Aside0.mk (Y.out.below hb); replace hy := fun i => Y.out.cell i; replace Z := Aside0.mk (Z.out.below hb); replace hz := fun i => Z.out.cell i; have hxa := fun i => (X.out.alloc (.cells #[.int .u64 0] 22)).cell i; have LOWA := Aside0.mk hb.size; clear hb))
    go_ret2
    exact ⟨rfl, B.out⟩
  rw [if_neg (by omega)]
  have d2 : decide (side < 0) = false := decide_eq_false c2
  have d3 : decide (2 < side) = false := decide_eq_false c3
  clear c2 c3
  generalize hans : IntKind.u64.wrap (sumB ((toldW h).takeWhile (fun b => !behindB b side place))) = ans
  have HANS := Aside0.mk hans
  clear hans
  refine (callsIn_wide (n := 5)).1 ?_
  refine callsIn_of_wp_marks Try.func78 rfl trivial ?_ rfl
  simp only [Try.ntmps78, List.size_toArray, List.length_cons, List.length_nil, Nat.reduceAdd, Nat.reduceSub, Array.replicate_succ, Array.replicate_zero, List.push_toArray, List.append_toArray, List.nil_append, List.cons_append]
  refine wpIn_wide.2 ?_
  go_wp2_with (first | (go_at_call 50; (with_reducible refine (CK.out _ _ HV.out).mono ?_); rintro e W1 ⟨rfl, hb⟩; replace B := Aside0.mk (below_then B.out B.out.size hb); replace HV := Aside0.mk (HV.out.below hb); replace X := Aside0.mk (X.out.below hb); replace hx := fun i => X.out.cell i; replace Y := Aside0.mk (Y.out.below hb); replace hy := fun i => Y.out.cell i; replace Z := Aside0.mk (Z.out.below hb); replace hz := fun i => Z.out.cell i; have hxa := fun i => (X.out.alloc (.cells #[.int .u64 0] 22)).cell i; have LOWA := Aside0.mk hb.size; clear hb) | (go_at_call 20; (with_reducible refine (WK.out _ _ (HV.out.below (below_alloc (Below.refl _ _) _))).mono ?_); rintro e W2 ⟨bE, bN, bH, bP, rfl, hS, hb⟩; have B2 := Aside0.mk (below_then (below_then B.out B.out.size (below_alloc (Below.refl _ _) (.cells #[.int .u64 0] 22))) (by have := B.out.size; simp at this ⊢; omega) hb); have Y2 := Aside0.mk ((Y.out.alloc (.cells #[.int .u64 0] 22)).below hb); have Z2 := Aside0.mk ((Z.out.alloc (.cells #[.int .u64 0] 22)).below hb); have HS := Aside0.mk hS; have HB2 := Aside0.mk hb; clear hS hb))
  refine (wpIn_wide (n := 5)).1 ?_
  have hw1 : w.heap.size + 1 + 1 + 1 ≤ W1.heap.size := by have := LOWA.out; simpa using this
  have hz1 : (W1.alloc (.cells #[.int .u64 0] 22)).heap.size = W1.heap.size + 1 := by simp
  have hw2 : W1.heap.size + 1 ≤ W2.heap.size := by have := HB2.out.size; omega
  have N2 : Blk W2 W1.heap.size #[.int .u64 0] 22 := (HB2.out.block _ (by simp)).trans (by simpa using blk_new W1 (.cells #[.int .u64 0] 22))
  have hS2 : HoldsW (W1.heap.size + 1) bE bN bH bP h W2 := by have := HS.out; rwa [hz1] at this
  clear hx hy hz CK B X Y Z HV hxa
  refine wpIn_rangeFunc_ownH rfl (by omega) (gf := 73) (lb := #[.pointer (some ⟨bE, 0, none⟩), .pointer (some ⟨bN, 0, none⟩), .pointer (some ⟨bH, 0, none⟩), .pointer (some ⟨bP, 0, none⟩)]) rfl trivial (enters_of Try.func73 (by kernel_rfl) rfl)
    (walk1_stops _ (by omega) (W1.heap.size + 1) bE bN bH bP h HW.out W2 hw2 hS2) KeepC.trans (fun W l o o' _ h hc _ => KeepC.put W l o o' h hc) (Below.refl _ _) (fun _ => rfl)
    (fun pre W => ((∀ b ∈ toldL h pre, behindB b side place = false) ∧ Blk W W1.heap.size #[.int .u64 (IntKind.u64.wrap (sumB (toldL h pre)))] 22) ∧ (Blk W (w.heap.size + 1) #[.int .i64 side] 3 ∧ Blk W (w.heap.size + 1 + 1) #[.int .i64 place] 3) ∧ (Below w.heap.size w W ∧ W2.heap.size ≤ W.heap.size))
    (fun c pre W => c = .exit 0 ∧ (∃ pre0 x, pre = pre0 ++ [x] ∧ (∀ b ∈ toldL h pre0, behindB b side place = false) ∧ behindB ((toldW h).get x) side place = true ∧ Blk W W1.heap.size #[.int .u64 (IntKind.u64.wrap (sumB (toldL h pre0)))] 22) ∧ (Below w.heap.size w W ∧ W2.heap.size ≤ W.heap.size))
    (fun s A B row ⟨⟨q1, q2⟩, ⟨q3, q4⟩, q5, q6⟩ hg hr => ⟨⟨q1, q2.grown hg hr⟩, ⟨q3.grown hg hr, q4.grown hg hr⟩, (ownFrom_below (Nat.le_refl _) (by omega)) s A B row q5 hg hr, Nat.le_trans q6 hg.size⟩)
    (fun c s A B row ⟨q0, ⟨p0, x, q1, q2, q3, q4⟩, q5, q6⟩ hg hr => ⟨q0, ⟨p0, x, q1, q2, q3, q4.grown hg hr⟩, (ownFrom_below (Nat.le_refl _) (by omega)) s A B row q5 hg hr, Nat.le_trans q6 hg.size⟩)
    ⟨⟨fun b hb => by simp [toldL] at hb, N2⟩, ⟨Y2.out, Z2.out⟩, B2.out, Nat.le_refl _⟩
    (fun x a' W => ∃ b, a' = ({ tmps := #[.agg #[.int .i64 h.f0, .int .u64 h.f1, .int .u64 h.f2, .int .u64 h.f3, .int .u64 h.f4, .slice A5 h.f5.length c5, .slice A6 h.f6.length c6, .slice A7 h.f7.length c7, .slice A8 h.f8.length c8], .int .i64 side, .int .i64 place, .pointer (some ⟨w.heap.size, 0, none⟩), .pointer (some ⟨w.heap.size + 1, 0, none⟩), .pointer (some ⟨w.heap.size + 1 + 1, 0, none⟩), .int .u64 0, .int .i64 0, .int .i64 0, .pointer (some ⟨W1.heap.size, 0, none⟩), .pointer (some ⟨b, 0, none⟩), .agg #[.int .i64 h.f0, .int .u64 h.f1, .int .u64 h.f2, .int .u64 h.f3, .int .u64 h.f4, .slice A5 h.f5.length c5, .slice A6 h.f6.length c6, .slice A7 h.f7.length c7, .slice A8 h.f8.length c8], .int .i64 0, .int .i64 0, .bool false, undef, .int .i64 side, .bool false, .bool false, .int .i64 side, .bool false, .bool false, .agg #[.int .i64 h.f0, .int .u64 h.f1, .int .u64 h.f2, .int .u64 h.f3, .int .u64 h.f4, .slice A5 h.f5.length c5, .slice A6 h.f6.length c6, .slice A7 h.f7.length c7, .slice A8 h.f8.length c8], .func (.func 73) #[] #[.pointer (some ⟨bE, 0, none⟩), .pointer (some ⟨bN, 0, none⟩), .pointer (some ⟨bH, 0, none⟩), .pointer (some ⟨bP, 0, none⟩)], encB ((toldW h).get x), undef, undef, undef, undef, undef, undef, undef, undef, undef], defers := [] } : Act) ∧ BlkF W b (encB1 ((toldW h).get x)) ∧ W2.heap.size ≤ b) (fun x a' s A B row ⟨b, e, hb, hge⟩ hg hr => ⟨b, e, hb.grown hg hr, hge⟩) ?assign ?body ?done ?stop
  case assign =>
    intro l pre x W K hI hK
    have HI_ := Aside0.mk hI
    have HK := Aside0.mk hK
    clear hI hK
    obtain ⟨y, hy⟩ : ∃ y, y = (toldW h).get x := ⟨_, rfl⟩
    have HY := Aside0.mk hy
    simp only [← hy]
    clear hy
    unfold encB
    gi_wp2
    have hbl := below_alloc (Below.refl W.heap.size W) (.cells (encB1 y) 52)
    obtain ⟨⟨q1, q2⟩, ⟨q3, q4⟩, q5, q6⟩ := HI_.out
    refine HK.out _ _ ((KeepsOthers.alloc W (.cells (encB1 y) 52)).from _) (KeepC.of_below hbl) ⟨⟨q1, q2.alloc _⟩, ⟨q3.alloc _, q4.alloc _⟩, below_then q5 q5.size hbl, Nat.le_trans q6 hbl.size⟩ ⟨W.heap.size, ?_, ?_, q6⟩
    · rw [← HY.out]; rfl
    · rw [← HY.out]; exact Blk.new W _ _
  case body =>
    rintro l pre x a' W hl hlr ⟨⟨q1, q2⟩, ⟨q3, q4⟩, q5, q6⟩ ⟨b, rfl, hb, hge⟩ hlt
    obtain ⟨y, hy⟩ : ∃ y, y = (toldW h).get x := ⟨_, rfl⟩
    have HTS := Aside0.mk (toldL_snoc h pre x)
    have HYX := Aside0.mk hy
    rw [← hy] at hb HTS
    simp only [← hy]
    clear hy
    obtain ⟨s, hs⟩ : ∃ s, s = sumB (toldL h pre) := ⟨_, rfl⟩
    rw [← hs] at q2
    have HS_ := Aside0.mk hs
    have hbe := behind_eq y side place
    have hf0 : Fence.wide.fn 109 := trivial
    unfold encB
    have hc := fun i => Blk.cell q2 i
    have hcf := fun i => blk_frozen q2 i
    have hbc := fun i => Blk.cell hb i
    have hrc := fun i => Blk.cell q3 i
    have hsc := fun i => Blk.cell q4 i
    have K1 := Aside0.mk q1
    have K2 := Aside0.mk q2
    have K3 := Aside0.mk q3
    have K4 := Aside0.mk q4
    have K5 := Aside0.mk q5
    have K6 := Aside0.mk q6
    have HBB := Aside0.mk hb
    have HBE := Aside0.mk hbe
    clear q1 q2 q3 q4 q5 q6 hl hlr hlt hs hbe hb
    unfold encB1 at hbc
    cases hbv : behindB y side place with
    | true =>
      rw [hbv] at HBE
      have HBV := Aside0.mk hbv
      clear hbv
      gi_wp2_with (gi_at_call 109; refine (CallsIn.inRound l (callsIn_wide.2 (rank_behind.calls _ _ _ _ _ _ _ HBE.out))).mono ?_; rintro e W5 ⟨rfl, hb⟩; have HB5 := Aside0.mk hb; clear hb)
      refine ⟨KeepsFrom.of_grownBy (grown_of_below HB5.out none) (fun j e => by cases e), rfl, ⟨pre, x, rfl, K1.out, ?_, ?_⟩, ?_, ?_⟩
      · rw [← HYX.out]; exact HBV.out
      · rw [← HS_.out]; exact K2.out.below HB5.out
      · exact below_then K5.out K5.out.size HB5.out
      · exact Nat.le_trans K6.out HB5.out.size
    | false =>
      rw [hbv] at HBE
      have HBV := Aside0.mk hbv
      clear hbv
      gi_wp2_with (gi_at_call 109; refine (CallsIn.inRound l (callsIn_wide.2 (rank_behind.calls _ _ _ _ _ _ _ HBE.out))).mono ?_; rintro e W5 ⟨rfl, hb⟩; have HB5 := Aside0.mk hb; have K2' := Aside0.mk (K2.out.below hb); have hbk := Blk.below (show Blk W b (encB1 y) 52 from HBB.out) hb; replace hc := fun i => Blk.cell K2'.out i; replace hcf := fun i => blk_frozen K2'.out i; replace hbc := fun i => Blk.cell hbk i; unfold encB1 at hbc; clear hb hbk)
      have hw_ : IntKind.u64.wrap (IntKind.u64.wrap s + y.n) = IntKind.u64.wrap (sumB (toldL h (pre ++ [x]))) := by
        rw [HTS.out, sumB_snoc, ← HS_.out]
        show (s % 18446744073709551616 + y.n) % 18446744073709551616 = (s + y.n) % 18446744073709551616
        omega
      rw [hw_]
      have hsz := HB5.out.size
      have hkk := KeepC.of_below (n0 := W1.heap.size + 1) HB5.out
      refine ⟨(KeepsFrom.of_grownBy (grown_of_below HB5.out none) (fun j e => by cases e)).trans ((KeepsOthers.setCell _ _ _).from _), hkk.trans (KeepC.setCell _ (Nat.lt_succ_self _) _), ⟨?_, ?_⟩, ⟨?_, ?_⟩, ?_, ?_⟩
      · rw [HTS.out]
        intro z hz
        rcases List.mem_append.1 hz with hz | hz
        · exact K1.out z hz
        · obtain rfl := List.mem_singleton.1 hz; exact HBV.out
      · exact Boxed.set _ K2'.out
      · exact blk_put_ne (K3.out.below HB5.out) (by omega) _
      · exact blk_put_ne (K4.out.below HB5.out) (by omega) _
      · exact (below_then K5.out K5.out.size HB5.out).setCell (by show w.heap.size ≤ W1.heap.size; omega) _
      · have h6_ := K6.out; have : W2.heap.size ≤ W5.heap.size := by omega
        simpa [World.setCell] using this
  case done =>
    rintro D xs W hD hS ⟨⟨q1, q2⟩, ⟨q3, q4⟩, q5, q6⟩ hK
    rw [toldL_all hS] at q1 q2
    have hf : ans = IntKind.u64.wrap (sumB (toldW h)) := by rw [← HANS.out, takeWhile_all (fun b hb => by rw [q1 b hb]; rfl)]
    rw [← hf] at q2
    have hc := fun i => Blk.cell q2 i
    have K5 := Aside0.mk q5
    have HK := Aside0.mk hK
    clear q1 q2 q3 q4 q5 q6 hK hS hf
    go_wp2
    refine ⟨by simp, .inl ⟨_, _, rfl, run_takeDeferred HK.out, ?_⟩⟩
    exact ⟨_, results_tmp2 rfl _ _ _, rfl, K5.out.trans (below_putObj_hi _ _ trivial (by omega))⟩
  case stop =>
    rintro D c pre W hD hS ⟨rfl, ⟨p0, x, rfl, q1, q2, q3⟩, q5, q6⟩ hK
    have hf : ans = IntKind.u64.wrap (sumB (toldL h p0)) := by
      have ht := toldL_take hS
      rw [toldL_snoc] at ht
      rw [← HANS.out, ← List.take_append_drop (p0 ++ [x]).length (toldW h), ← ht, List.append_assoc, List.singleton_append, takeWhile_stop (fun b hb => by rw [q1 b hb]; rfl) (by rw [q2]; rfl)]
    rw [← hf] at q3
    have hc := fun i => Blk.cell q3 i
    have K5 := Aside0.mk q5
    have HK := Aside0.mk hK
    clear q1 q2 q3 q5 q6 hK hS hf
    gi_wp2
    go_wp2
    refine ⟨by simp, .inl ⟨_, _, rfl, run_takeDeferred HK.out, ?_⟩⟩
    exact ⟨_, results_tmp2 rfl _ _ _, rfl, K5.out.trans (below_putObj_hi _ _ trivial (by omega))⟩
end Go.Proofs.Ytfbjjbbhnmoolaa.P
namespace Go.Proofs.Ytfbjjbbhnmoolaa.P
open Go.RowKit Go.Shelf Go.Proofs.YtfbjjbbhnmoolaaW.PrintWords Go.Proofs.YtfbjjbbhnmoolaaW.PrintLast Go.Proofs.YtfbjjbbhnmoolaaW.PrintMore
def rank_Total.f (a0 a1 a2 a3 a4 : Int) (l5 l6 : List Sp) (l7 l8 : List Int) : Option (Int × Int) := if wfHi a0 a1 a2 a3 a4 l5 l6 l7 l8 then some (totalR ⟨a0, a1, a2, a3, a4, l5, l6, l7, l8⟩) else none
theorem rank_Total.calls (a0 a1 a2 a3 a4 : Int) (A5 : Option Addr) (c5 : Nat) (l5 : List Sp) (A6 : Option Addr) (c6 : Nat) (l6 : List Sp) (A7 : Option Addr) (c7 : Nat) (l7 : List Int) (A8 : Option Addr) (c8 : Nat) (l8 : List Int) (r1 r2 : Int) (w : World)
    (h5 : Kd.C kSp w A5 l5.length l5) (k5 : l5.length ≤ c5) (h6 : Kd.C kSp w A6 l6.length l6) (k6 : l6.length ≤ c6) (h7 : Kd.C (Kd.int .i64) w A7 l7.length l7) (k7 : l7.length ≤ c7) (h8 : Kd.C (Kd.int .i64) w A8 l8.length l8) (k8 : l8.length ≤ c8)
    (h : rank_Total.f a0 a1 a2 a3 a4 l5 l6 l7 l8 = some (r1, r2)) :
    Calls Try.prog 76 #[.agg #[.int .i64 a0, .int .u64 a1, .int .u64 a2, .int .u64 a3, .int .u64 a4, .slice A5 l5.length c5, .slice A6 l6.length c6, .slice A7 l7.length c7, .slice A8 l8.length c8]] w fun e w' => e = .returned (.tuple #[.int .u64 r1, .int .i64 r2]) ∧ Below w.heap.size w w' := by
  obtain ⟨hw, h1⟩ := of_ite_some h
  have := total_c ⟨a0, a1, a2, a3, a4, l5, l6, l7, l8⟩ hw w _ (HI.mk (h := ⟨a0, a1, a2, a3, a4, l5, l6, l7, l8⟩) (.of h5 k5) (.of h6 k6) (.of h7 k7) (.of h8 k8))
  rw [h1] at this
  exact this
def rank_At.f (a0 a1 a2 a3 a4 : Int) (l5 l6 : List Sp) (l7 l8 : List Int) (k : Int) : Option (Int × Int × Int × Int) := if wfHi a0 a1 a2 a3 a4 l5 l6 l7 l8 ∧ u64 k then some ((atR ⟨a0, a1, a2, a3, a4, l5, l6, l7, l8⟩ k).1.s, (atR ⟨a0, a1, a2, a3, a4, l5, l6, l7, l8⟩ k).1.p, (atR ⟨a0, a1, a2, a3, a4, l5, l6, l7, l8⟩ k).1.n, (atR ⟨a0, a1, a2, a3, a4, l5, l6, l7, l8⟩ k).2) else none
theorem rank_At.calls (a0 a1 a2 a3 a4 : Int) (A5 : Option Addr) (c5 : Nat) (l5 : List Sp) (A6 : Option Addr) (c6 : Nat) (l6 : List Sp) (A7 : Option Addr) (c7 : Nat) (l7 : List Int) (A8 : Option Addr) (c8 : Nat) (l8 : List Int) (k : Int) (r1 r2 r3 r4 : Int) (w : World)
    (h5 : Kd.C kSp w A5 l5.length l5) (k5 : l5.length ≤ c5) (h6 : Kd.C kSp w A6 l6.length l6) (k6 : l6.length ≤ c6) (h7 : Kd.C (Kd.int .i64) w A7 l7.length l7) (k7 : l7.length ≤ c7) (h8 : Kd.C (Kd.int .i64) w A8 l8.length l8) (k8 : l8.length ≤ c8)
    (h : rank_At.f a0 a1 a2 a3 a4 l5 l6 l7 l8 k = some (r1, r2, r3, r4)) :
    Calls Try.prog 27 #[.agg #[.int .i64 a0, .int .u64 a1, .int .u64 a2, .int .u64 a3, .int .u64 a4, .slice A5 l5.length c5, .slice A6 l6.length c6, .slice A7 l7.length c7, .slice A8 l8.length c8], .int .u64 k] w fun e w' => e = .returned (.tuple #[.agg #[.int .i64 r1, .int .i64 r2, .int .u64 r3], .int .i64 r4]) ∧ Below w.heap.size w w' := by
  obtain ⟨⟨hw, hk⟩, h1⟩ := of_ite_some h
  have := at_c ⟨a0, a1, a2, a3, a4, l5, l6, l7, l8⟩ hw k hk w _ (HI.mk (h := ⟨a0, a1, a2, a3, a4, l5, l6, l7, l8⟩) (.of h5 k5) (.of h6 k6) (.of h7 k7) (.of h8 k8))
  simp only [Prod.mk.injEq] at h1
  obtain ⟨rfl, rfl, rfl, rfl⟩ := h1
  exact this
end Go.Proofs.Ytfbjjbbhnmoolaa.P
namespace Go.Proofs.Ytfbjjbbhnmoolaa.P
open Go.RowKit Go.Proofs.YtfbjjbbhnmoolaaW.PrintWords Go.Proofs.YtfbjjbbhnmoolaaW.PrintLast Go.Proofs.YtfbjjbbhnmoolaaW.PrintMore
attribute [local go_sem] max2_int min2_int max_two min_two max_three min_three max_four min_four
def bits_Mul64.f (a0 : Int) (a1 : Int) : Option (Int × Int) := some (IntKind.u64.wrap ((IntKind.u64.wrap ((IntKind.u64.wrap ((a0 / 4294967296) * (a1 / 4294967296))) + ((IntKind.u64.wrap ((IntKind.u64.wrap ((a0 / 4294967296) * (Go.bits .and .u64 a1 4294967295))) + ((IntKind.u64.wrap ((Go.bits .and .u64 a0 4294967295) * (Go.bits .and .u64 a1 4294967295))) / 4294967296))) / 4294967296))) + ((IntKind.u64.wrap ((Go.bits .and .u64 (IntKind.u64.wrap ((IntKind.u64.wrap ((a0 / 4294967296) * (Go.bits .and .u64 a1 4294967295))) + ((IntKind.u64.wrap ((Go.bits .and .u64 a0 4294967295) * (Go.bits .and .u64 a1 4294967295))) / 4294967296))) 4294967295) + (IntKind.u64.wrap ((Go.bits .and .u64 a0 4294967295) * (a1 / 4294967296))))) / 4294967296)), IntKind.u64.wrap (a0 * a1))
set_option maxHeartbeats 8000000 in
set_option maxRecDepth 100000 in
theorem bits_Mul64.calls (a0 : Int) (a1 : Int) (r1 : Int) (r2 : Int) (w : World) (h : bits_Mul64.f a0 a1 = some (r1, r2)) :
  Calls Try.prog 110 #[.int .u64 a0, .int .u64 a1] w fun e w' => e = .returned (.tuple #[.int .u64 r1, .int .u64 r2]) ∧ Drawn0 w w' := by
 have H : (some (IntKind.u64.wrap ((IntKind.u64.wrap ((IntKind.u64.wrap ((a0 / 4294967296) * (a1 / 4294967296))) + ((IntKind.u64.wrap ((IntKind.u64.wrap ((a0 / 4294967296) * (Go.bits .and .u64 a1 4294967295))) + ((IntKind.u64.wrap ((Go.bits .and .u64 a0 4294967295) * (Go.bits .and .u64 a1 4294967295))) / 4294967296))) / 4294967296))) + ((IntKind.u64.wrap ((Go.bits .and .u64 (IntKind.u64.wrap ((IntKind.u64.wrap ((a0 / 4294967296) * (Go.bits .and .u64 a1 4294967295))) + ((IntKind.u64.wrap ((Go.bits .and .u64 a0 4294967295) * (Go.bits .and .u64 a1 4294967295))) / 4294967296))) 4294967295) + (IntKind.u64.wrap ((Go.bits .and .u64 a0 4294967295) * (a1 / 4294967296))))) / 4294967296)), IntKind.u64.wrap (a0 * a1))) = some (r1, r2) := h
 clear h
 simp only [Option.some.injEq, Prod.mk.injEq] at H
 obtain ⟨rfl, rfl⟩ := H
 go_enter Try.func110, Try.ntmps110
 go_wp2
 go_ret2
 exact ⟨by first | rfl | (simp; done) | (simp [*]; done), by repeat (first | exact Drawn0.refl _ | apply Drawn0.step)⟩
end Go.Proofs.Ytfbjjbbhnmoolaa.P
namespace Go.Proofs.Ytfbjjbbhnmoolaa.P
open Go Go.Shelf Go.Proofs
def lay134_ren : Go.Shelf.Ren := ⟨fun | 134 => 137 | 129 => 154 | n => n, fun | 53 => 22 | 3 => 3 | 4 => 4 | 46 => 128 | 5 => 5 | 9 => 9 | n => n, fun | n => n⟩
theorem lay134 : Go.Proofs.Lays.n134 Try.prog lay134_ren := {
  mixed := by kernel_rfl,
  f129 := Try.func154.trans (congrArg some (by kernel_rfl)),
  f134 := Try.func137.trans (congrArg some (by kernel_rfl)),
  t3 := Try.underlying3,
  a3 := Try.isAgg3,
  z3 := Try.sizeOf3,
  v3 := Try.zeroValue3,
  t4 := Try.underlying4,
  a4 := Try.isAgg4,
  z4 := Try.sizeOf4,
  v4 := Try.zeroValue4,
  t5 := Try.underlying5,
  a5 := Try.isAgg5,
  z5 := Try.sizeOf5,
  v5 := Try.zeroValue5,
  t9 := Try.underlying9,
  a9 := Try.isAgg9,
  z9 := Try.sizeOf9,
  v9 := Try.zeroValue9,
  t46 := Try.underlying128,
  a46 := Try.isAgg128,
  z46 := Try.sizeOf128,
  v46 := Try.zeroValue128,
  t53 := Try.underlying22,
  a53 := Try.isAgg22,
  z53 := Try.sizeOf22,
  v53 := Try.zeroValue22 }
end Go.Proofs.Ytfbjjbbhnmoolaa.P
namespace Go.Proofs.Ytfbjjbbhnmoolaa.P
theorem dv_done {K a b U V q r : Nat} (hK : 0 < K) (h : q * a + r = U) (hQ : (U * K + V) / (a * K + b) ≤ q) (hY : 0 < a * K + b) (hc : q * b ≤ K * r + V) : q = (U * K + V) / (a * K + b) := by
  refine Nat.le_antisymm ((Nat.le_div_iff_mul_le hY).2 ?_) hQ
  have e : q * (a * K + b) = (q * a) * K + q * b := by rw [Nat.mul_add, Nat.mul_assoc]
  rw [e, ← h, Nat.add_mul]
  have : r * K = K * r := Nat.mul_comm _ _
  omega
theorem dv_gt {K a b U V q r : Nat} (h : q * a + r = U) (hY : 0 < a * K + b) (hc : K * r + V < q * b) : (U * K + V) / (a * K + b) < q := by
  refine (Nat.div_lt_iff_lt_mul hY).2 ?_
  have e : q * (a * K + b) = (q * a) * K + q * b := by rw [Nat.mul_add, Nat.mul_assoc]
  rw [e, ← h, Nat.add_mul]
  have : r * K = K * r := Nat.mul_comm _ _
  omega
theorem dv_digit {K Y U V : Nat} (hU : U < Y) (hV : V < K) : (U * K + V) / Y < K := by
  refine (Nat.div_lt_iff_lt_mul (by omega)).2 ?_
  have : (U + 1) * K ≤ Y * K := Nat.mul_le_mul_right _ hU
  rw [Nat.add_mul] at this
  rw [Nat.mul_comm K Y]
  omega
theorem dv_first {a b U V : Nat} (ha : 2147483648 ≤ a) (ha2 : a < 4294967296) (hb : b < 4294967296) (hU : U < a * 4294967296 + b) (hV : V < 4294967296) :
    (U * 4294967296 + V) / (a * 4294967296 + b) ≤ U / a ∧ U / a ≤ 4294967297 ∧ U / a * a + U % a = U ∧ U % a < a := by
  refine ⟨?_, ?_, Nat.div_add_mod' U a, Nat.mod_lt _ (by omega)⟩
  · have h1 : U < (U / a + 1) * a := Nat.lt_mul_of_div_lt (Nat.lt_succ_self _) (by omega)
    have h2 : (U * 4294967296 + V) / (a * 4294967296 + b) ≤ (U * 4294967296 + V) / (a * 4294967296) := Nat.div_le_div_left (by omega) (by omega)
    refine Nat.le_trans h2 (Nat.le_of_lt_succ ((Nat.div_lt_iff_lt_mul (by omega)).2 ?_))
    have h3 : (U + 1) * 4294967296 ≤ ((U / a + 1) * a) * 4294967296 := Nat.mul_le_mul_right _ h1
    rw [← Nat.mul_assoc]
    rw [Nat.add_mul] at h3
    show _ < (U / a + 1) * a * 4294967296
    omega
  · refine Nat.le_of_lt_succ ((Nat.div_lt_iff_lt_mul (by omega)).2 ?_)
    omega
theorem dv_break {a b U V q r : Nat} (h : q * a + r = U) (hY : 0 < a * 4294967296 + b) (hQ : (U * 4294967296 + V) / (a * 4294967296 + b) ≤ q) (hb : b < 4294967296) (hq : q ≤ 4294967296) (hr : 4294967296 ≤ r) : q = (U * 4294967296 + V) / (a * 4294967296 + b) := by
  refine dv_done (by omega) h hQ hY ?_
  have h1 : q * b ≤ 4294967296 * b := Nat.mul_le_mul_right _ hq
  omega
theorem dv_left {U V Y q M : Nat} (hY : 0 < Y) (hM : Y ≤ M) (hq : q = (U * 4294967296 + V) / Y) : ((((U * 4294967296 % M + V) % M : Nat) : Int) - ((q * Y % M : Nat) : Int)) % (M : Int) = (((U * 4294967296 + V) % Y : Nat) : Int) := by
  have h1 := Nat.div_add_mod (U * 4294967296 + V) Y
  rw [← hq] at h1
  have h2 := Nat.mod_lt (U * 4294967296 + V) hY
  obtain ⟨r, hr⟩ : ∃ r, (U * 4294967296 + V) % Y = r := ⟨_, rfl⟩
  rw [hr] at h1 h2 ⊢
  have e1 : (((U * 4294967296 % M + V) % M : Nat) : Int) % M = (((U * 4294967296 + V : Nat)) : Int) % M := by
    rw [← Int.natCast_emod, ← Int.natCast_emod, Nat.mod_mod, Nat.mod_add_mod]
  have e2 : (((q * Y % M : Nat)) : Int) % M = ((q * Y : Nat) : Int) % M := by rw [← Int.natCast_emod, ← Int.natCast_emod, Nat.mod_mod]
  rw [Int.sub_emod, e1, e2, ← Int.sub_emod, ← h1]
  rw [show (((Y * q + r : Nat)) : Int) - ((q * Y : Nat) : Int) = (r : Int) by rw [Nat.mul_comm q Y]; omega]
  exact Int.emod_eq_of_lt (by omega) (by omega)
theorem dv_two {y s hi lo Y U1 V1 V0 q1 q0 : Nat} (hy : 0 < y) (eY : Y = y * 2 ^ s) (eU : (U1 * 4294967296 + V1) * 4294967296 + V0 = (hi * 18446744073709551616 + lo) * 2 ^ s)
    (h1 : q1 = (U1 * 4294967296 + V1) / Y) (h0 : q0 = ((U1 * 4294967296 + V1) % Y * 4294967296 + V0) / Y) :
    q1 * 4294967296 + q0 = (hi * 18446744073709551616 + lo) / y ∧ ((U1 * 4294967296 + V1) % Y * 4294967296 + V0) % Y / 2 ^ s = (hi * 18446744073709551616 + lo) % y := by
  have hp : 0 < 2 ^ s := Nat.two_pow_pos s
  have hY : 0 < Y := by rw [eY]; exact Nat.mul_pos hy hp
  have a1 := Nat.div_add_mod (U1 * 4294967296 + V1) Y
  rw [← h1] at a1
  have a0 := Nat.div_add_mod ((U1 * 4294967296 + V1) % Y * 4294967296 + V0) Y
  rw [← h0] at a0
  have hr := Nat.mod_lt ((U1 * 4294967296 + V1) % Y * 4294967296 + V0) hY
  obtain ⟨r, hr_⟩ : ∃ r, ((U1 * 4294967296 + V1) % Y * 4294967296 + V0) % Y = r := ⟨_, rfl⟩
  rw [hr_] at a0 hr ⊢
  obtain ⟨r1, hr1_⟩ : ∃ r1, (U1 * 4294967296 + V1) % Y = r1 := ⟨_, rfl⟩
  rw [hr1_] at a1 a0
  clear h0 hr_ hr1_ h1
  have e : (hi * 18446744073709551616 + lo) * 2 ^ s = Y * (q1 * 4294967296 + q0) + r := by
    rw [← eU, ← a1, Nat.add_mul, Nat.mul_add, Nat.add_assoc, Nat.add_assoc, ← a0, Nat.mul_assoc]
  obtain ⟨n, hn⟩ : ∃ n, hi * 18446744073709551616 + lo = n := ⟨_, rfl⟩
  rw [hn] at e ⊢
  have d1 : n * 2 ^ s / Y = q1 * 4294967296 + q0 := by rw [e, Nat.mul_add_div hY, Nat.div_eq_of_lt hr, Nat.add_zero]
  have d2 : n * 2 ^ s % Y = r := by rw [e, Nat.mul_add_mod, Nat.mod_eq_of_lt hr]
  rw [eY] at d1 d2
  rw [Nat.mul_div_mul_right _ _ hp] at d1
  rw [Nat.mul_mod_mul_right] at d2
  refine ⟨d1.symm, ?_⟩
  rw [← d2, Nat.mul_div_cancel _ hp]
end Go.Proofs.Ytfbjjbbhnmoolaa.P
namespace Go.Proofs.Ytfbjjbbhnmoolaa.P
open Go.RowKit Go.Shelf Go.Proofs.YtfbjjbbhnmoolaaW.PrintWords Go.Proofs.YtfbjjbbhnmoolaaW.PrintLast Go.Proofs.YtfbjjbbhnmoolaaW.PrintMore
theorem lz_c (y s : Nat) (hs : Lib.bitLen y + s = 64) (hy : y < 18446744073709551616) (w : World) : Calls Try.prog 137 #[.int .u64 y] w fun e w' => e = .returned (.int .i64 s) ∧ w = w' := by
  refine (Any.bits_LeadingZeros64 lay134 y w (by omega) (by omega)).mono ?_
  rintro e w' ⟨rfl, rfl⟩
  refine ⟨?_, rfl⟩
  rw [Int.toNat_natCast]
  congr 2
  omega
theorem wrapC (n : Nat) (h : n < 18446744073709551616) : IntKind.u64.wrap (n : Int) = (n : Int) := Mul64.wrapN n h
theorem norm_y {y s : Nat} (h0 : 0 < y) (hy : y < 18446744073709551616) (hs : Lib.bitLen y + s = 64) : s ≤ 63 ∧ 9223372036854775808 ≤ y * 2 ^ s ∧ y * 2 ^ s < 18446744073709551616 := by
  have h1 : 2 ^ Nat.log2 y ≤ y := Nat.log2_self_le (by omega)
  have h2 : y < 2 ^ (Nat.log2 y + 1) := Nat.lt_log2_self
  have h3 := Lib.bitLen_shift (Nat.log2 y) y h1 hy
  have h4 : y / 2 ^ Nat.log2 y = 1 := by
    rw [Nat.pow_succ] at h2
    exact Nat.div_eq_of_lt_le (by omega) (by omega)
  rw [h4, show Lib.bitLen 1 = 1 from by decide] at h3
  have hn : Nat.log2 y < 64 := (Nat.log2_lt (by omega)).2 hy
  generalize Nat.log2 y = n at *
  have hs' : s = 63 - n := by omega
  subst hs'
  refine ⟨by omega, ?_, ?_⟩
  · have e : 2 ^ n * 2 ^ (63 - n) = 9223372036854775808 := by rw [← Nat.pow_add, show n + (63 - n) = 63 by omega]
    rw [← e]; exact Nat.mul_le_mul_right _ h1
  · have e : 2 ^ (n + 1) * 2 ^ (63 - n) = 18446744073709551616 := by rw [← Nat.pow_add, show n + 1 + (63 - n) = 64 by omega]
    rw [← e]; exact Nat.mul_lt_mul_of_pos_right h2 (Nat.two_pow_pos _)
theorem shl_eq (x s : Nat) (hs : s ≤ 63) : IntKind.u64.wrap ((x : Int) * 2 ^ min (IntKind.u64.wrap (s : Int)).toNat 64) = ((x * 2 ^ s % 18446744073709551616 : Nat) : Int) := by
  rw [wrapC s (by omega), Int.toNat_natCast, Nat.min_eq_left (by omega), show ((x : Int) * 2 ^ s) = ((x * 2 ^ s : Nat) : Int) by simp]
  exact Mul64.wrapM _
theorem or_eq (hi lo s : Nat) (hs : s ≤ 63) (hh : hi * 2 ^ s < 18446744073709551616) (hl : lo < 18446744073709551616) :
    bits .or .u64 (IntKind.u64.wrap ((hi : Int) * 2 ^ min (IntKind.u64.wrap (s : Int)).toNat 64)) ((lo : Int) / 2 ^ min (IntKind.u64.wrap (64 - IntKind.u64.wrap (s : Int))).toNat 64) = ((hi * 2 ^ s + lo * 2 ^ s / 18446744073709551616 : Nat) : Int) := by
  rw [shl_eq hi s hs, Nat.mod_eq_of_lt hh, wrapC s (by omega), show (64 - (s : Int)) = ((64 - s : Nat) : Int) by omega, wrapC (64 - s) (by omega), Int.toNat_natCast, Nat.min_eq_left (by omega)]
  have e1 : (lo : Int) / 2 ^ (64 - s) = ((lo / 2 ^ (64 - s) : Nat) : Int) := by simp
  have e2 : lo * 2 ^ s / 18446744073709551616 = lo / 2 ^ (64 - s) := by
    rw [show (18446744073709551616 : Nat) = 2 ^ (64 - s) * 2 ^ s by rw [← Nat.pow_add, show 64 - s + s = 64 by omega], Nat.mul_div_mul_right _ _ (Nat.two_pow_pos s)]
  have e3 : lo / 2 ^ (64 - s) < 2 ^ s := by
    refine (Nat.div_lt_iff_lt_mul (Nat.two_pow_pos _)).2 ?_
    rw [← Nat.pow_add, show s + (64 - s) = 64 by omega]; exact hl
  rw [e1, e2]
  generalize lo / 2 ^ (64 - s) = l at *
  have e4 : hi * 2 ^ s + l = (hi * 2 ^ s) ||| l := by rw [← Nat.shiftLeft_eq]; exact Nat.shiftLeft_add_eq_or_of_lt e3 hi
  rw [e4]
  exact bits_or_u64_nat _ _ hh (Nat.lt_of_lt_of_le e3 (by have := Nat.pow_le_pow_right (n := 2) (by omega) hs; exact Nat.le_trans this (by decide)))
theorem up_lt {hi lo y s : Nat} (h1 : hi < y) (hl : lo < 18446744073709551616) : hi * 2 ^ s + lo * 2 ^ s / 18446744073709551616 < y * 2 ^ s := by
  have h2 : (hi + 1) * 2 ^ s ≤ y * 2 ^ s := Nat.mul_le_mul_right _ h1
  have h3 : lo * 2 ^ s / 18446744073709551616 < 2 ^ s := by
    refine (Nat.div_lt_iff_lt_mul (by omega)).2 ?_
    rw [Nat.mul_comm]
    exact Nat.mul_lt_mul_of_pos_left hl (Nat.two_pow_pos s)
  rw [Nat.add_mul] at h2
  omega
theorem up_eq (hi lo s : Nat) : ((hi * 2 ^ s + lo * 2 ^ s / 18446744073709551616) * 4294967296 + lo * 2 ^ s % 18446744073709551616 / 4294967296) * 4294967296 + lo * 2 ^ s % 18446744073709551616 % 4294967296 = (hi * 18446744073709551616 + lo) * 2 ^ s := by
  have h1 := Nat.div_add_mod (lo * 2 ^ s) 18446744073709551616
  rw [Nat.add_mul (hi * 18446744073709551616) lo, Nat.mul_right_comm hi 18446744073709551616]
  generalize lo * 2 ^ s = m at *
  generalize hi * 2 ^ s = n at *
  omega
theorem dv_left' {U V Y q M : Nat} (hY : 0 < Y) (hM : Y ≤ M) (hq : q = (U * 4294967296 + V) / Y) (eM : M = 18446744073709551616 := by rfl) :
    IntKind.u64.wrap (IntKind.u64.wrap (IntKind.u64.wrap ((U : Int) * 4294967296) + (V : Int)) - IntKind.u64.wrap ((q : Int) * (Y : Int))) = (((U * 4294967296 + V) % Y : Nat) : Int) := by
  have h := dv_left hY hM hq
  rw [eM] at h
  rw [IntKind.wrap_u64, IntKind.wrap_u64, IntKind.wrap_u64, IntKind.wrap_u64, ← h]
  have e1 : ((U : Int) * 4294967296 % 18446744073709551616 + (V : Int)) % 18446744073709551616 = ((U * 4294967296 % 18446744073709551616 + V) % 18446744073709551616 : Nat) := by simp
  have e2 : ((q : Int) * (Y : Int)) % 18446744073709551616 = ((q * Y % 18446744073709551616 : Nat) : Int) := by simp
  rw [e1, e2]
  rfl
set_option maxHeartbeats 16000000 in
set_option maxRecDepth 100000 in
theorem div64_c (hi lo y : Nat) (h0 : 0 < hi) (h1 : hi < y) (hl : lo < 18446744073709551616) (hy : y < 18446744073709551616) (w : World) : Calls Try.prog 111 #[.int .u64 hi, .int .u64 lo, .int .u64 y] w fun e w' =>
    e = .returned (.tuple #[.int .u64 (((hi * 18446744073709551616 + lo) / y : Nat) : Int), .int .u64 (((hi * 18446744073709551616 + lo) % y : Nat) : Int)]) ∧ Below w.heap.size w w' := by
  have d1 : ((y : Int) == 0) = false := beq_eq_false_iff_ne.2 (by omega)
  have d2 : decide (y ≤ hi) = false := decide_eq_false (by omega)
  have d3 : ((hi : Int) == 0) = false := beq_eq_false_iff_ne.2 (by omega)
  obtain ⟨s, hs⟩ : ∃ s, Lib.bitLen y + s = 64 := ⟨64 - Lib.bitLen y, by have := Lib.bitLen_le y 64 (by omega) (by omega); omega⟩
  obtain ⟨hs1, hY1, hY2⟩ := norm_y (by omega) hy hs
  have LZ := Aside0.mk (lz_c y s hs hy)
  obtain ⟨Y, eY⟩ : ∃ Y, Y = y * 2 ^ s := ⟨_, rfl⟩
  rw [← eY] at hY1 hY2
  obtain ⟨a, ea⟩ : ∃ a, a = Y / 4294967296 := ⟨_, rfl⟩
  obtain ⟨b, eb⟩ : ∃ b, b = Y % 4294967296 := ⟨_, rfl⟩
  obtain ⟨U, eU⟩ : ∃ U, U = hi * 2 ^ s + lo * 2 ^ s / 18446744073709551616 := ⟨_, rfl⟩
  obtain ⟨T, eT⟩ : ∃ T, T = lo * 2 ^ s % 18446744073709551616 := ⟨_, rfl⟩
  obtain ⟨V1, eV1⟩ : ∃ V1, V1 = T / 4294967296 := ⟨_, rfl⟩
  obtain ⟨V0, eV0⟩ : ∃ V0, V0 = T % 4294967296 := ⟨_, rfl⟩
  have hUY : U < Y := by rw [eU, eY]; exact up_lt h1 hl
  have ha1 : 2147483648 ≤ a := by omega
  have ha2 : a < 4294967296 := by omega
  have hb1 : b < 4294967296 := by omega
  have hV1 : V1 < 4294967296 := by omega
  have hV0 : V0 < 4294967296 := by omega
  have hYab : a * 4294967296 + b = Y := by omega
  have E1 : IntKind.u64.wrap ((y : Int) * 2 ^ min (IntKind.u64.wrap (s : Int)).toNat 64) = (Y : Int) := by rw [shl_eq y s hs1, ← eY, Nat.mod_eq_of_lt hY2]
  have E2 : (Y : Int) / 4294967296 = (a : Int) := by omega
  have E3 : bits .and .u64 (Y : Int) 4294967295 = (b : Int) := by rw [Mul64.maskN Y hY2, eb]
  have E4 : bits .or .u64 (IntKind.u64.wrap ((hi : Int) * 2 ^ min (IntKind.u64.wrap (s : Int)).toNat 64)) ((lo : Int) / 2 ^ min (IntKind.u64.wrap (64 - IntKind.u64.wrap (s : Int))).toNat 64) = (U : Int) := by rw [eU]; exact or_eq hi lo s hs1 (by have : hi * 2 ^ s ≤ y * 2 ^ s := Nat.mul_le_mul_right _ (Nat.le_of_lt h1); omega) hl
  have E5 : IntKind.u64.wrap ((lo : Int) * 2 ^ min (IntKind.u64.wrap (s : Int)).toNat 64) = (T : Int) := by rw [shl_eq lo s hs1, ← eT]
  have E6 : (T : Int) / 4294967296 = (V1 : Int) := by omega
  have E7 : bits .and .u64 (T : Int) 4294967295 = (V0 : Int) := by rw [Mul64.maskN T (by omega), eV0]
  obtain ⟨f1, f2, f3, f4⟩ := dv_first ha1 ha2 hb1 (by omega) hV1 (U := U)
  rw [hYab] at f1
  obtain ⟨q, eq_⟩ : ∃ q, q = U / a := ⟨_, rfl⟩
  obtain ⟨r, er_⟩ : ∃ r, r = U % a := ⟨_, rfl⟩
  rw [← eq_] at f1 f2 f3
  rw [← er_] at f3 f4
  have hqa : q * a ≤ U := by omega
  have E8 : IntKind.u64.wrap ((U : Int) / (a : Int)) = (q : Int) := by
    rw [← Int.natCast_ediv, ← eq_]; exact wrapC q (by omega)
  have E9 : IntKind.u64.wrap ((q : Int) * (a : Int)) = ((q * a : Nat) : Int) := by rw [← Int.natCast_mul]; exact wrapC _ (by omega)
  have E10 : IntKind.u64.wrap ((U : Int) - (q : Int) * (a : Int)) = (r : Int) := by
    rw [← Int.natCast_mul, show (U : Int) - ((q * a : Nat) : Int) = (r : Int) by omega]; exact wrapC r (by omega)
  have ane : ((a : Int) = 0) = False := by simp; omega
  have F1 := Aside0.mk f1
  have F2 := Aside0.mk f2
  have F3 := Aside0.mk f3
  have F4 := Aside0.mk f4
  have HY := Aside0.mk eY
  have HUT := Aside0.mk eU
  have HT := Aside0.mk eT
  have HV1 := Aside0.mk eV1
  have HV0 := Aside0.mk eV0
  have HAB := Aside0.mk hYab
  have HUY := Aside0.mk hUY
  have HS63 := Aside0.mk hs1
  have HY0 := Aside0.mk (show 0 < y by omega)
  have HUV := Aside0.mk (show (U * 4294967296 + V1) * 4294967296 + V0 = (hi * 18446744073709551616 + lo) * 2 ^ s from by rw [eV1, eV0, eU, eT]; exact up_eq hi lo s)
  clear hs eY ea eb eU eT eV1 eV0 eq_ er_ f1 f2 f3 f4 hYab hqa h0 h1 hl hy hs1 hUY
  go_enter Try.func111, Try.ntmps111
  go_wp2_with (go_at_call 137; (with_reducible refine (LZ.out _).mono ?_); rintro e w1 ⟨rfl, rfl⟩)
  clear E1 E2 E3 E4 E5 E6 E7 E8 E9 E10 LZ ane
  have hYp : 0 < Y := by omega
  have hQd := dv_digit (K := 4294967296) HUY.out hV1
  obtain ⟨Qd, eQd⟩ : ∃ Qd, Qd = (U * 4294967296 + V1) / Y := ⟨_, rfl⟩
  obtain ⟨U2, eU2⟩ : ∃ U2, U2 = (U * 4294967296 + V1) % Y := ⟨_, rfl⟩
  have hU2 : U2 < Y := by rw [eU2]; exact Nat.mod_lt _ hYp
  rw [← eQd] at hQd
  have G11 := dv_left' (M := 18446744073709551616) hYp (Nat.le_of_lt hY2) eQd
  rw [← eU2] at G11
  obtain ⟨f1, f2, f3, f4⟩ := dv_first ha1 ha2 hb1 (by rw [HAB.out]; exact hU2) hV0 (U := U2)
  rw [HAB.out] at f1
  obtain ⟨p, ep⟩ : ∃ p, p = U2 / a := ⟨_, rfl⟩
  obtain ⟨r2, er2⟩ : ∃ r2, r2 = U2 % a := ⟨_, rfl⟩
  rw [← ep] at f1 f2 f3
  rw [← er2] at f3 f4
  have hpa : p * a ≤ U2 := by omega
  have G12 : IntKind.u64.wrap ((U2 : Int) / (a : Int)) = (p : Int) := by
    rw [← Int.natCast_ediv, ← ep]; exact wrapC p (by omega)
  have G13 : IntKind.u64.wrap ((p : Int) * (a : Int)) = (p : Int) * (a : Int) := by rw [← Int.natCast_mul]; exact wrapC _ (by omega)
  have G14 : IntKind.u64.wrap ((U2 : Int) - (p : Int) * (a : Int)) = (r2 : Int) := by
    rw [← Int.natCast_mul, show (U2 : Int) - ((p * a : Nat) : Int) = (r2 : Int) by omega]; exact wrapC r2 (by omega)
  have ane : ((a : Int) = 0) = False := by simp; omega
  have hPd := dv_digit (K := 4294967296) hU2 hV0
  obtain ⟨Pd, ePd⟩ : ∃ Pd, Pd = (U2 * 4294967296 + V0) / Y := ⟨_, rfl⟩
  rw [← ePd] at hPd
  obtain ⟨R, eR⟩ : ∃ R, R = (U2 * 4294967296 + V0) % Y := ⟨_, rfl⟩
  have hR : R < Y := by rw [eR]; exact Nat.mod_lt _ hYp
  have HU2Y := Aside0.mk hU2
  have G21 := dv_left' (M := 18446744073709551616) hYp (Nat.le_of_lt hY2) ePd
  rw [← eR] at G21
  have hfin := dv_two (y := y) (s := s) (hi := hi) (lo := lo) (Y := Y) (U1 := U) (V1 := V1) (V0 := V0) (q1 := Qd) (q0 := Pd) HY0.out HY.out HUV.out eQd (by rw [← eU2]; exact ePd)
  rw [← eU2, ← eR] at hfin
  have G22 : IntKind.u64.wrap (IntKind.u64.wrap ((Qd : Int) * 4294967296) + (Pd : Int)) = (((hi * 18446744073709551616 + lo) / y : Nat) : Int) := by
    rw [show (Qd : Int) * 4294967296 = ((Qd * 4294967296 : Nat) : Int) by simp, wrapC _ (by omega), ← Int.natCast_add, hfin.1, ← hfin.1]; exact wrapC _ (by omega)
  have G23 : (R : Int) / 2 ^ min (IntKind.u64.wrap (s : Int)).toNat 64 = (((hi * 18446744073709551616 + lo) % y : Nat) : Int) := by
    rw [wrapC s (by have := HS63.out; omega), Int.toNat_natCast, Nat.min_eq_left (by have := HS63.out; omega), ← hfin.2]; simp
  have P1 := Aside0.mk f1
  have P2 := Aside0.mk f2
  have P3 := Aside0.mk f3
  have P4 := Aside0.mk f4
  have EQD := Aside0.mk eQd
  have EPD := Aside0.mk ePd
  clear f1 f2 f3 f4 ep er2 hpa eU2 eR ePd eQd hfin hU2 hQd hPd hR
  have G11_ := Aside0.mk (And.intro G11 (And.intro G12 (And.intro G13 (And.intro G14 (And.intro ane (And.intro G21 (And.intro G22 G23)))))))
  clear G11 G12 G13 G14 ane G21 G22 G23
  go_loop [15, 16] (fun s15 s16 => ∃ q r : Nat, s15 = .int .u64 q ∧ s16 = .int .u64 r ∧ Aside0 (q * a + r = U) ∧ Aside0 ((U * 4294967296 + V1) / Y ≤ q) ∧ Aside0 (q ≤ 4294967297) ∧ Aside0 (r < 4294967296)) (fun _ s16 => 4294967296 - (intOf s16).toNat)
  case atStart => exact ⟨q, r, rfl, rfl, F3, F1, F2, ⟨by have := F4.out; omega⟩⟩
  case round =>
    obtain ⟨q, r, rfl, rfl, G1, G2, G3, G4⟩ := hrel
    clear F1 F2 F3 F4
    by_cases c0 : 4294967296 ≤ q ∨ 4294967296 * r + V1 < q * b
    · have hgt : Qd < q := by
        rcases c0 with c0 | c0
        · have := dv_digit (K := 4294967296) HUY.out hV1
          rw [← EQD.out] at this; omega
        · have := dv_gt (K := 4294967296) (V := V1) G1.out (by omega) c0
          rw [HAB.out, ← EQD.out] at this; exact this
      have hq1 : IntKind.u64.wrap ((q : Int) - 1) = ((q - 1 : Nat) : Int) := by rw [show (q : Int) - 1 = ((q - 1 : Nat) : Int) by omega]; exact wrapC _ (by have := G3.out; omega)
      have hr1 : IntKind.u64.wrap ((r : Int) + (a : Int)) = (r : Int) + (a : Int) := by rw [← Int.natCast_add]; exact wrapC _ (by have := G4.out; omega)
      have hn1 : (q - 1) * a + (r + a) = U := by
        have h1 := G1.out
        have h2 : q * a = (q - 1) * a + a := by
          obtain ⟨m, rfl⟩ : ∃ m, q = m + 1 := ⟨q - 1, by omega⟩
          rw [Nat.add_sub_cancel, Nat.add_mul, Nat.one_mul]
        omega
      have hle : Qd ≤ q - 1 := by omega
      have HN := Aside0.mk hn1
      have HL := Aside0.mk hle
      have k1 : decide ((4294967296 : Int) ≤ (q : Int)) = decide (4294967296 ≤ q) := decide_eq_decide.2 (by omega)
      by_cases c4 : 4294967296 ≤ q
      · have k2 : decide (4294967296 ≤ q) = true := decide_eq_true c4
        rw [k2] at k1
        have HC := Aside0.mk c4
        clear c0 c4 hn1 hle hgt
        by_cases c1 : 4294967296 ≤ r + a
        · have hD : q - 1 = Qd := by
            have := dv_break (V := V1) HN.out (by omega) (by rw [HAB.out, ← EQD.out]; exact HL.out) hb1 (by have := G3.out; omega) c1
            rw [HAB.out, ← EQD.out] at this; exact this
          rw [hD] at hq1
          have k3 : decide ((4294967296 : Int) ≤ (r : Int) + (a : Int)) = true := decide_eq_true (by omega)
          have k4 : decide (4294967296 ≤ r + a) = true := decide_eq_true c1
          clear c1 hD
          obtain ⟨G11, G12, G13, G14, ane, G21, G22, G23⟩ := G11_.out
          have HX := Aside0.mk (And.intro G21 (And.intro G22 G23))
          clear G21 G22 G23 G1 G2 G3 G4
          go_wp2
          clear G11 G12 G13 G14 ane
          obtain ⟨G21, G22, G23⟩ := HX.out
          clear HX
          go_loop [18, 16] (fun s18 s16 => ∃ q r : Nat, s18 = .int .u64 q ∧ s16 = .int .u64 r ∧ Aside0 (q * a + r = U2) ∧ Aside0 ((U2 * 4294967296 + V0) / Y ≤ q) ∧ Aside0 (q ≤ 4294967297) ∧ Aside0 (r < 4294967296)) (fun _ s16 => 4294967296 - (intOf s16).toNat)
          case atStart => exact ⟨p, r2, rfl, rfl, P3, P1, P2, ⟨by have := P4.out; omega⟩⟩
          case round =>
            obtain ⟨q, r, rfl, rfl, G1, G2, G3, G4⟩ := hrel
            by_cases c0 : 4294967296 ≤ q ∨ 4294967296 * r + V0 < q * b
            · have hgt : Pd < q := by
                rcases c0 with c0 | c0
                · have := dv_digit (K := 4294967296) HU2Y.out hV0
                  rw [← EPD.out] at this; omega
                · have := dv_gt (K := 4294967296) (V := V0) G1.out (by omega) c0
                  rw [HAB.out, ← EPD.out] at this; exact this
              have hq1 : IntKind.u64.wrap ((q : Int) - 1) = ((q - 1 : Nat) : Int) := by rw [show (q : Int) - 1 = ((q - 1 : Nat) : Int) by omega]; exact wrapC _ (by have := G3.out; omega)
              have hr1 : IntKind.u64.wrap ((r : Int) + (a : Int)) = (r : Int) + (a : Int) := by rw [← Int.natCast_add]; exact wrapC _ (by have := G4.out; omega)
              have hn1 : (q - 1) * a + (r + a) = U2 := by
                have h1 := G1.out
                have h2 : q * a = (q - 1) * a + a := by
                  obtain ⟨m, rfl⟩ : ∃ m, q = m + 1 := ⟨q - 1, by omega⟩
                  rw [Nat.add_sub_cancel, Nat.add_mul, Nat.one_mul]
                omega
              have hle : Pd ≤ q - 1 := by omega
              have HN := Aside0.mk hn1
              have HL := Aside0.mk hle
              have k1 : decide ((4294967296 : Int) ≤ (q : Int)) = decide (4294967296 ≤ q) := decide_eq_decide.2 (by omega)
              by_cases c4 : 4294967296 ≤ q
              · have k2 : decide (4294967296 ≤ q) = true := decide_eq_true c4
                rw [k2] at k1
                have HC := Aside0.mk c4
                clear c0 c4 hn1 hle hgt
                by_cases c1 : 4294967296 ≤ r + a
                · have hD : q - 1 = Pd := by
                    have := dv_break (V := V0) HN.out (by omega) (by rw [HAB.out, ← EPD.out]; exact HL.out) hb1 (by have := G3.out; omega) c1
                    rw [HAB.out, ← EPD.out] at this; exact this
                  rw [hD] at hq1
                  have k3 : decide ((4294967296 : Int) ≤ (r : Int) + (a : Int)) = true := decide_eq_true (by omega)
                  have k4 : decide (4294967296 ≤ r + a) = true := decide_eq_true c1
                  clear c1 hD
                  go_wp2
                  go_ret2
                  exact ⟨rfl, Below.refl _ _⟩
                · have k3 : decide ((4294967296 : Int) ≤ (r : Int) + (a : Int)) = false := decide_eq_false (by omega)
                  have k4 : decide (4294967296 ≤ r + a) = false := decide_eq_false c1
                  have HC1 := Aside0.mk c1
                  clear c1
                  go_wp2
                  refine ⟨⟨q - 1, r + a, rfl, by rw [← Int.natCast_add], HN, ⟨by rw [← EPD.out]; exact HL.out⟩, ⟨by have := G3.out; omega⟩, ⟨by have := HC1.out; omega⟩⟩, ?_⟩
                  simp only [intOf]
                  have := HC1.out
                  omega
              · have k2 : decide (4294967296 ≤ q) = false := decide_eq_false c4
                rw [k2] at k1
                have hc : 4294967296 * r + V0 < q * b := by omega
                have hqb : q * b < 18446744073709551616 := by
                  have : q * b ≤ 4294967295 * b := Nat.mul_le_mul_right _ (by omega)
                  omega
                have m1 : IntKind.u64.wrap ((q : Int) * (b : Int)) = (q : Int) * (b : Int) := by rw [← Int.natCast_mul]; exact wrapC _ hqb
                have m2 : IntKind.u64.wrap (4294967296 * (r : Int)) = 4294967296 * (r : Int) := by
                  rw [show (4294967296 * (r : Int)) = ((4294967296 * r : Nat) : Int) by simp]; exact wrapC _ (by have := G4.out; omega)
                have m3 : IntKind.u64.wrap (4294967296 * (r : Int) + (V0 : Int)) = 4294967296 * (r : Int) + (V0 : Int) := by
                  rw [show (4294967296 * (r : Int) + (V0 : Int)) = ((4294967296 * r + V0 : Nat) : Int) by simp]; exact wrapC _ (by have := G4.out; omega)
                have m4 : decide (4294967296 * (r : Int) + (V0 : Int) < (q : Int) * (b : Int)) = true := decide_eq_true (by rw [← Int.natCast_mul]; omega)
                have HC := Aside0.mk hc
                clear c0 c4 hn1 hle hgt hc hqb
                by_cases c1 : 4294967296 ≤ r + a
                · have hD : q - 1 = Pd := by
                    have := dv_break (V := V0) HN.out (by omega) (by rw [HAB.out, ← EPD.out]; exact HL.out) hb1 (by have := G3.out; omega) c1
                    rw [HAB.out, ← EPD.out] at this; exact this
                  rw [hD] at hq1
                  have k3 : decide ((4294967296 : Int) ≤ (r : Int) + (a : Int)) = true := decide_eq_true (by omega)
                  have k4 : decide (4294967296 ≤ r + a) = true := decide_eq_true c1
                  clear c1 hD
                  go_wp2
                  go_ret2
                  exact ⟨rfl, Below.refl _ _⟩
                · have k3 : decide ((4294967296 : Int) ≤ (r : Int) + (a : Int)) = false := decide_eq_false (by omega)
                  have k4 : decide (4294967296 ≤ r + a) = false := decide_eq_false c1
                  have HC1 := Aside0.mk c1
                  clear c1
                  go_wp2
                  refine ⟨⟨q - 1, r + a, rfl, by rw [← Int.natCast_add], HN, ⟨by rw [← EPD.out]; exact HL.out⟩, ⟨by have := G3.out; omega⟩, ⟨by have := HC1.out; omega⟩⟩, ?_⟩
                  simp only [intOf]
                  have := HC1.out
                  omega
            · have c1 : q < 4294967296 := by omega
              have c2 : q * b ≤ 4294967296 * r + V0 := by omega
              have hD : q = Pd := by
                have := dv_done (K := 4294967296) (V := V0) (by omega) G1.out (by rw [HAB.out]; exact G2.out) (by omega) c2
                rw [HAB.out, ← EPD.out] at this; exact this
              have hqb : q * b < 18446744073709551616 := by
                have : q * b ≤ 4294967295 * b := Nat.mul_le_mul_right _ (by omega)
                omega
              have k1 : decide ((4294967296 : Int) ≤ (q : Int)) = false := decide_eq_false (by omega)
              have k2 : decide (4294967296 ≤ q) = false := decide_eq_false (by omega)
              have m1 : IntKind.u64.wrap ((q : Int) * (b : Int)) = (q : Int) * (b : Int) := by rw [← Int.natCast_mul]; exact wrapC _ hqb
              have m2 : IntKind.u64.wrap (4294967296 * (r : Int)) = 4294967296 * (r : Int) := by
                rw [show (4294967296 * (r : Int)) = ((4294967296 * r : Nat) : Int) by simp]; exact wrapC _ (by have := G4.out; omega)
              have m3 : IntKind.u64.wrap (4294967296 * (r : Int) + (V0 : Int)) = 4294967296 * (r : Int) + (V0 : Int) := by
                rw [show (4294967296 * (r : Int) + (V0 : Int)) = ((4294967296 * r + V0 : Nat) : Int) by simp]; exact wrapC _ (by have := G4.out; omega)
              have m4 : decide (4294967296 * (r : Int) + (V0 : Int) < (q : Int) * (b : Int)) = false := decide_eq_false (by rw [← Int.natCast_mul]; omega)
              clear c0 c1 c2 hqb
              subst hD
              go_wp2
              go_ret2
              exact ⟨rfl, Below.refl _ _⟩

        · have k3 : decide ((4294967296 : Int) ≤ (r : Int) + (a : Int)) = false := decide_eq_false (by omega)
          have k4 : decide (4294967296 ≤ r + a) = false := decide_eq_false c1
          have HC1 := Aside0.mk c1
          clear c1
          go_wp2
          refine ⟨⟨q - 1, r + a, rfl, by rw [← Int.natCast_add], HN, ⟨by rw [← EQD.out]; exact HL.out⟩, ⟨by have := G3.out; omega⟩, ⟨by have := HC1.out; omega⟩⟩, ?_⟩
          simp only [intOf]
          have := HC1.out
          omega
      · have k2 : decide (4294967296 ≤ q) = false := decide_eq_false c4
        rw [k2] at k1
        have hc : 4294967296 * r + V1 < q * b := by omega
        have hqb : q * b < 18446744073709551616 := by
          have : q * b ≤ 4294967295 * b := Nat.mul_le_mul_right _ (by omega)
          omega
        have m1 : IntKind.u64.wrap ((q : Int) * (b : Int)) = (q : Int) * (b : Int) := by rw [← Int.natCast_mul]; exact wrapC _ hqb
        have m2 : IntKind.u64.wrap (4294967296 * (r : Int)) = 4294967296 * (r : Int) := by
          rw [show (4294967296 * (r : Int)) = ((4294967296 * r : Nat) : Int) by simp]; exact wrapC _ (by have := G4.out; omega)
        have m3 : IntKind.u64.wrap (4294967296 * (r : Int) + (V1 : Int)) = 4294967296 * (r : Int) + (V1 : Int) := by
          rw [show (4294967296 * (r : Int) + (V1 : Int)) = ((4294967296 * r + V1 : Nat) : Int) by simp]; exact wrapC _ (by have := G4.out; omega)
        have m4 : decide (4294967296 * (r : Int) + (V1 : Int) < (q : Int) * (b : Int)) = true := decide_eq_true (by rw [← Int.natCast_mul]; omega)
        have HC := Aside0.mk hc
        clear c0 c4 hn1 hle hgt hc hqb
        by_cases c1 : 4294967296 ≤ r + a
        · have hD : q - 1 = Qd := by
            have := dv_break (V := V1) HN.out (by omega) (by rw [HAB.out, ← EQD.out]; exact HL.out) hb1 (by have := G3.out; omega) c1
            rw [HAB.out, ← EQD.out] at this; exact this
          rw [hD] at hq1
          have k3 : decide ((4294967296 : Int) ≤ (r : Int) + (a : Int)) = true := decide_eq_true (by omega)
          have k4 : decide (4294967296 ≤ r + a) = true := decide_eq_true c1
          clear c1 hD
          obtain ⟨G11, G12, G13, G14, ane, G21, G22, G23⟩ := G11_.out
          have HX := Aside0.mk (And.intro G21 (And.intro G22 G23))
          clear G21 G22 G23 G1 G2 G3 G4
          go_wp2
          clear G11 G12 G13 G14 ane
          obtain ⟨G21, G22, G23⟩ := HX.out
          clear HX
          go_loop [18, 16] (fun s18 s16 => ∃ q r : Nat, s18 = .int .u64 q ∧ s16 = .int .u64 r ∧ Aside0 (q * a + r = U2) ∧ Aside0 ((U2 * 4294967296 + V0) / Y ≤ q) ∧ Aside0 (q ≤ 4294967297) ∧ Aside0 (r < 4294967296)) (fun _ s16 => 4294967296 - (intOf s16).toNat)
          case atStart => exact ⟨p, r2, rfl, rfl, P3, P1, P2, ⟨by have := P4.out; omega⟩⟩
          case round =>
            obtain ⟨q, r, rfl, rfl, G1, G2, G3, G4⟩ := hrel
            by_cases c0 : 4294967296 ≤ q ∨ 4294967296 * r + V0 < q * b
            · have hgt : Pd < q := by
                rcases c0 with c0 | c0
                · have := dv_digit (K := 4294967296) HU2Y.out hV0
                  rw [← EPD.out] at this; omega
                · have := dv_gt (K := 4294967296) (V := V0) G1.out (by omega) c0
                  rw [HAB.out, ← EPD.out] at this; exact this
              have hq1 : IntKind.u64.wrap ((q : Int) - 1) = ((q - 1 : Nat) : Int) := by rw [show (q : Int) - 1 = ((q - 1 : Nat) : Int) by omega]; exact wrapC _ (by have := G3.out; omega)
              have hr1 : IntKind.u64.wrap ((r : Int) + (a : Int)) = (r : Int) + (a : Int) := by rw [← Int.natCast_add]; exact wrapC _ (by have := G4.out; omega)
              have hn1 : (q - 1) * a + (r + a) = U2 := by
                have h1 := G1.out
                have h2 : q * a = (q - 1) * a + a := by
                  obtain ⟨m, rfl⟩ : ∃ m, q = m + 1 := ⟨q - 1, by omega⟩
                  rw [Nat.add_sub_cancel, Nat.add_mul, Nat.one_mul]
                omega
              have hle : Pd ≤ q - 1 := by omega
              have HN := Aside0.mk hn1
              have HL := Aside0.mk hle
              have k1 : decide ((4294967296 : Int) ≤ (q : Int)) = decide (4294967296 ≤ q) := decide_eq_decide.2 (by omega)
              by_cases c4 : 4294967296 ≤ q
              · have k2 : decide (4294967296 ≤ q) = true := decide_eq_true c4
                rw [k2] at k1
                have HC := Aside0.mk c4
                clear c0 c4 hn1 hle hgt
                by_cases c1 : 4294967296 ≤ r + a
                · have hD : q - 1 = Pd := by
                    have := dv_break (V := V0) HN.out (by omega) (by rw [HAB.out, ← EPD.out]; exact HL.out) hb1 (by have := G3.out; omega) c1
                    rw [HAB.out, ← EPD.out] at this; exact this
                  rw [hD] at hq1
                  have k3 : decide ((4294967296 : Int) ≤ (r : Int) + (a : Int)) = true := decide_eq_true (by omega)
                  have k4 : decide (4294967296 ≤ r + a) = true := decide_eq_true c1
                  clear c1 hD
                  go_wp2
                  go_ret2
                  exact ⟨rfl, Below.refl _ _⟩
                · have k3 : decide ((4294967296 : Int) ≤ (r : Int) + (a : Int)) = false := decide_eq_false (by omega)
                  have k4 : decide (4294967296 ≤ r + a) = false := decide_eq_false c1
                  have HC1 := Aside0.mk c1
                  clear c1
                  go_wp2
                  refine ⟨⟨q - 1, r + a, rfl, by rw [← Int.natCast_add], HN, ⟨by rw [← EPD.out]; exact HL.out⟩, ⟨by have := G3.out; omega⟩, ⟨by have := HC1.out; omega⟩⟩, ?_⟩
                  simp only [intOf]
                  have := HC1.out
                  omega
              · have k2 : decide (4294967296 ≤ q) = false := decide_eq_false c4
                rw [k2] at k1
                have hc : 4294967296 * r + V0 < q * b := by omega
                have hqb : q * b < 18446744073709551616 := by
                  have : q * b ≤ 4294967295 * b := Nat.mul_le_mul_right _ (by omega)
                  omega
                have m1 : IntKind.u64.wrap ((q : Int) * (b : Int)) = (q : Int) * (b : Int) := by rw [← Int.natCast_mul]; exact wrapC _ hqb
                have m2 : IntKind.u64.wrap (4294967296 * (r : Int)) = 4294967296 * (r : Int) := by
                  rw [show (4294967296 * (r : Int)) = ((4294967296 * r : Nat) : Int) by simp]; exact wrapC _ (by have := G4.out; omega)
                have m3 : IntKind.u64.wrap (4294967296 * (r : Int) + (V0 : Int)) = 4294967296 * (r : Int) + (V0 : Int) := by
                  rw [show (4294967296 * (r : Int) + (V0 : Int)) = ((4294967296 * r + V0 : Nat) : Int) by simp]; exact wrapC _ (by have := G4.out; omega)
                have m4 : decide (4294967296 * (r : Int) + (V0 : Int) < (q : Int) * (b : Int)) = true := decide_eq_true (by rw [← Int.natCast_mul]; omega)
                have HC := Aside0.mk hc
                clear c0 c4 hn1 hle hgt hc hqb
                by_cases c1 : 4294967296 ≤ r + a
                · have hD : q - 1 = Pd := by
                    have := dv_break (V := V0) HN.out (by omega) (by rw [HAB.out, ← EPD.out]; exact HL.out) hb1 (by have := G3.out; omega) c1
                    rw [HAB.out, ← EPD.out] at this; exact this
                  rw [hD] at hq1
                  have k3 : decide ((4294967296 : Int) ≤ (r : Int) + (a : Int)) = true := decide_eq_true (by omega)
                  have k4 : decide (4294967296 ≤ r + a) = true := decide_eq_true c1
                  clear c1 hD
                  go_wp2
                  go_ret2
                  exact ⟨rfl, Below.refl _ _⟩
                · have k3 : decide ((4294967296 : Int) ≤ (r : Int) + (a : Int)) = false := decide_eq_false (by omega)
                  have k4 : decide (4294967296 ≤ r + a) = false := decide_eq_false c1
                  have HC1 := Aside0.mk c1
                  clear c1
                  go_wp2
                  refine ⟨⟨q - 1, r + a, rfl, by rw [← Int.natCast_add], HN, ⟨by rw [← EPD.out]; exact HL.out⟩, ⟨by have := G3.out; omega⟩, ⟨by have := HC1.out; omega⟩⟩, ?_⟩
                  simp only [intOf]
                  have := HC1.out
                  omega
            · have c1 : q < 4294967296 := by omega
              have c2 : q * b ≤ 4294967296 * r + V0 := by omega
              have hD : q = Pd := by
                have := dv_done (K := 4294967296) (V := V0) (by omega) G1.out (by rw [HAB.out]; exact G2.out) (by omega) c2
                rw [HAB.out, ← EPD.out] at this; exact this
              have hqb : q * b < 18446744073709551616 := by
                have : q * b ≤ 4294967295 * b := Nat.mul_le_mul_right _ (by omega)
                omega
              have k1 : decide ((4294967296 : Int) ≤ (q : Int)) = false := decide_eq_false (by omega)
              have k2 : decide (4294967296 ≤ q) = false := decide_eq_false (by omega)
              have m1 : IntKind.u64.wrap ((q : Int) * (b : Int)) = (q : Int) * (b : Int) := by rw [← Int.natCast_mul]; exact wrapC _ hqb
              have m2 : IntKind.u64.wrap (4294967296 * (r : Int)) = 4294967296 * (r : Int) := by
                rw [show (4294967296 * (r : Int)) = ((4294967296 * r : Nat) : Int) by simp]; exact wrapC _ (by have := G4.out; omega)
              have m3 : IntKind.u64.wrap (4294967296 * (r : Int) + (V0 : Int)) = 4294967296 * (r : Int) + (V0 : Int) := by
                rw [show (4294967296 * (r : Int) + (V0 : Int)) = ((4294967296 * r + V0 : Nat) : Int) by simp]; exact wrapC _ (by have := G4.out; omega)
              have m4 : decide (4294967296 * (r : Int) + (V0 : Int) < (q : Int) * (b : Int)) = false := decide_eq_false (by rw [← Int.natCast_mul]; omega)
              clear c0 c1 c2 hqb
              subst hD
              go_wp2
              go_ret2
              exact ⟨rfl, Below.refl _ _⟩

        · have k3 : decide ((4294967296 : Int) ≤ (r : Int) + (a : Int)) = false := decide_eq_false (by omega)
          have k4 : decide (4294967296 ≤ r + a) = false := decide_eq_false c1
          have HC1 := Aside0.mk c1
          clear c1
          go_wp2
          refine ⟨⟨q - 1, r + a, rfl, by rw [← Int.natCast_add], HN, ⟨by rw [← EQD.out]; exact HL.out⟩, ⟨by have := G3.out; omega⟩, ⟨by have := HC1.out; omega⟩⟩, ?_⟩
          simp only [intOf]
          have := HC1.out
          omega
    · have c1 : q < 4294967296 := by omega
      have c2 : q * b ≤ 4294967296 * r + V1 := by omega
      have hD : q = Qd := by
        have := dv_done (K := 4294967296) (V := V1) (by omega) G1.out (by rw [HAB.out]; exact G2.out) (by omega) c2
        rw [HAB.out, ← EQD.out] at this; exact this
      have hqb : q * b < 18446744073709551616 := by
        have : q * b ≤ 4294967295 * b := Nat.mul_le_mul_right _ (by omega)
        omega
      have k1 : decide ((4294967296 : Int) ≤ (q : Int)) = false := decide_eq_false (by omega)
      have k2 : decide (4294967296 ≤ q) = false := decide_eq_false (by omega)
      have m1 : IntKind.u64.wrap ((q : Int) * (b : Int)) = (q : Int) * (b : Int) := by rw [← Int.natCast_mul]; exact wrapC _ hqb
      have m2 : IntKind.u64.wrap (4294967296 * (r : Int)) = 4294967296 * (r : Int) := by
        rw [show (4294967296 * (r : Int)) = ((4294967296 * r : Nat) : Int) by simp]; exact wrapC _ (by have := G4.out; omega)
      have m3 : IntKind.u64.wrap (4294967296 * (r : Int) + (V1 : Int)) = 4294967296 * (r : Int) + (V1 : Int) := by
        rw [show (4294967296 * (r : Int) + (V1 : Int)) = ((4294967296 * r + V1 : Nat) : Int) by simp]; exact wrapC _ (by have := G4.out; omega)
      have m4 : decide (4294967296 * (r : Int) + (V1 : Int) < (q : Int) * (b : Int)) = false := decide_eq_false (by rw [← Int.natCast_mul]; omega)
      clear c0 c1 c2 hqb
      subst hD
      obtain ⟨G11, G12, G13, G14, ane, G21, G22, G23⟩ := G11_.out
      have HX := Aside0.mk (And.intro G21 (And.intro G22 G23))
      clear G21 G22 G23 G1 G2 G3 G4
      go_wp2
      clear G11 G12 G13 G14 ane
      obtain ⟨G21, G22, G23⟩ := HX.out
      clear HX
      go_loop [18, 16] (fun s18 s16 => ∃ q r : Nat, s18 = .int .u64 q ∧ s16 = .int .u64 r ∧ Aside0 (q * a + r = U2) ∧ Aside0 ((U2 * 4294967296 + V0) / Y ≤ q) ∧ Aside0 (q ≤ 4294967297) ∧ Aside0 (r < 4294967296)) (fun _ s16 => 4294967296 - (intOf s16).toNat)
      case atStart => exact ⟨p, r2, rfl, rfl, P3, P1, P2, ⟨by have := P4.out; omega⟩⟩
      case round =>
        obtain ⟨q, r, rfl, rfl, G1, G2, G3, G4⟩ := hrel
        by_cases c0 : 4294967296 ≤ q ∨ 4294967296 * r + V0 < q * b
        · have hgt : Pd < q := by
            rcases c0 with c0 | c0
            · have := dv_digit (K := 4294967296) HU2Y.out hV0
              rw [← EPD.out] at this; omega
            · have := dv_gt (K := 4294967296) (V := V0) G1.out (by omega) c0
              rw [HAB.out, ← EPD.out] at this; exact this
          have hq1 : IntKind.u64.wrap ((q : Int) - 1) = ((q - 1 : Nat) : Int) := by rw [show (q : Int) - 1 = ((q - 1 : Nat) : Int) by omega]; exact wrapC _ (by have := G3.out; omega)
          have hr1 : IntKind.u64.wrap ((r : Int) + (a : Int)) = (r : Int) + (a : Int) := by rw [← Int.natCast_add]; exact wrapC _ (by have := G4.out; omega)
          have hn1 : (q - 1) * a + (r + a) = U2 := by
            have h1 := G1.out
            have h2 : q * a = (q - 1) * a + a := by
              obtain ⟨m, rfl⟩ : ∃ m, q = m + 1 := ⟨q - 1, by omega⟩
              rw [Nat.add_sub_cancel, Nat.add_mul, Nat.one_mul]
            omega
          have hle : Pd ≤ q - 1 := by omega
          have HN := Aside0.mk hn1
          have HL := Aside0.mk hle
          have k1 : decide ((4294967296 : Int) ≤ (q : Int)) = decide (4294967296 ≤ q) := decide_eq_decide.2 (by omega)
          by_cases c4 : 4294967296 ≤ q
          · have k2 : decide (4294967296 ≤ q) = true := decide_eq_true c4
            rw [k2] at k1
            have HC := Aside0.mk c4
            clear c0 c4 hn1 hle hgt
            by_cases c1 : 4294967296 ≤ r + a
            · have hD : q - 1 = Pd := by
                have := dv_break (V := V0) HN.out (by omega) (by rw [HAB.out, ← EPD.out]; exact HL.out) hb1 (by have := G3.out; omega) c1
                rw [HAB.out, ← EPD.out] at this; exact this
              rw [hD] at hq1
              have k3 : decide ((4294967296 : Int) ≤ (r : Int) + (a : Int)) = true := decide_eq_true (by omega)
              have k4 : decide (4294967296 ≤ r + a) = true := decide_eq_true c1
              clear c1 hD
              go_wp2
              go_ret2
              exact ⟨rfl, Below.refl _ _⟩
            · have k3 : decide ((4294967296 : Int) ≤ (r : Int) + (a : Int)) = false := decide_eq_false (by omega)
              have k4 : decide (4294967296 ≤ r + a) = false := decide_eq_false c1
              have HC1 := Aside0.mk c1
              clear c1
              go_wp2
              refine ⟨⟨q - 1, r + a, rfl, by rw [← Int.natCast_add], HN, ⟨by rw [← EPD.out]; exact HL.out⟩, ⟨by have := G3.out; omega⟩, ⟨by have := HC1.out; omega⟩⟩, ?_⟩
              simp only [intOf]
              have := HC1.out
              omega
          · have k2 : decide (4294967296 ≤ q) = false := decide_eq_false c4
            rw [k2] at k1
            have hc : 4294967296 * r + V0 < q * b := by omega
            have hqb : q * b < 18446744073709551616 := by
              have : q * b ≤ 4294967295 * b := Nat.mul_le_mul_right _ (by omega)
              omega
            have m1 : IntKind.u64.wrap ((q : Int) * (b : Int)) = (q : Int) * (b : Int) := by rw [← Int.natCast_mul]; exact wrapC _ hqb
            have m2 : IntKind.u64.wrap (4294967296 * (r : Int)) = 4294967296 * (r : Int) := by
              rw [show (4294967296 * (r : Int)) = ((4294967296 * r : Nat) : Int) by simp]; exact wrapC _ (by have := G4.out; omega)
            have m3 : IntKind.u64.wrap (4294967296 * (r : Int) + (V0 : Int)) = 4294967296 * (r : Int) + (V0 : Int) := by
              rw [show (4294967296 * (r : Int) + (V0 : Int)) = ((4294967296 * r + V0 : Nat) : Int) by simp]; exact wrapC _ (by have := G4.out; omega)
            have m4 : decide (4294967296 * (r : Int) + (V0 : Int) < (q : Int) * (b : Int)) = true := decide_eq_true (by rw [← Int.natCast_mul]; omega)
            have HC := Aside0.mk hc
            clear c0 c4 hn1 hle hgt hc hqb
            by_cases c1 : 4294967296 ≤ r + a
            · have hD : q - 1 = Pd := by
                have := dv_break (V := V0) HN.out (by omega) (by rw [HAB.out, ← EPD.out]; exact HL.out) hb1 (by have := G3.out; omega) c1
                rw [HAB.out, ← EPD.out] at this; exact this
              rw [hD] at hq1
              have k3 : decide ((4294967296 : Int) ≤ (r : Int) + (a : Int)) = true := decide_eq_true (by omega)
              have k4 : decide (4294967296 ≤ r + a) = true := decide_eq_true c1
              clear c1 hD
              go_wp2
              go_ret2
              exact ⟨rfl, Below.refl _ _⟩
            · have k3 : decide ((4294967296 : Int) ≤ (r : Int) + (a : Int)) = false := decide_eq_false (by omega)
              have k4 : decide (4294967296 ≤ r + a) = false := decide_eq_false c1
              have HC1 := Aside0.mk c1
              clear c1
              go_wp2
              refine ⟨⟨q - 1, r + a, rfl, by rw [← Int.natCast_add], HN, ⟨by rw [← EPD.out]; exact HL.out⟩, ⟨by have := G3.out; omega⟩, ⟨by have := HC1.out; omega⟩⟩, ?_⟩
              simp only [intOf]
              have := HC1.out
              omega
        · have c1 : q < 4294967296 := by omega
          have c2 : q * b ≤ 4294967296 * r + V0 := by omega
          have hD : q = Pd := by
            have := dv_done (K := 4294967296) (V := V0) (by omega) G1.out (by rw [HAB.out]; exact G2.out) (by omega) c2
            rw [HAB.out, ← EPD.out] at this; exact this
          have hqb : q * b < 18446744073709551616 := by
            have : q * b ≤ 4294967295 * b := Nat.mul_le_mul_right _ (by omega)
            omega
          have k1 : decide ((4294967296 : Int) ≤ (q : Int)) = false := decide_eq_false (by omega)
          have k2 : decide (4294967296 ≤ q) = false := decide_eq_false (by omega)
          have m1 : IntKind.u64.wrap ((q : Int) * (b : Int)) = (q : Int) * (b : Int) := by rw [← Int.natCast_mul]; exact wrapC _ hqb
          have m2 : IntKind.u64.wrap (4294967296 * (r : Int)) = 4294967296 * (r : Int) := by
            rw [show (4294967296 * (r : Int)) = ((4294967296 * r : Nat) : Int) by simp]; exact wrapC _ (by have := G4.out; omega)
          have m3 : IntKind.u64.wrap (4294967296 * (r : Int) + (V0 : Int)) = 4294967296 * (r : Int) + (V0 : Int) := by
            rw [show (4294967296 * (r : Int) + (V0 : Int)) = ((4294967296 * r + V0 : Nat) : Int) by simp]; exact wrapC _ (by have := G4.out; omega)
          have m4 : decide (4294967296 * (r : Int) + (V0 : Int) < (q : Int) * (b : Int)) = false := decide_eq_false (by rw [← Int.natCast_mul]; omega)
          clear c0 c1 c2 hqb
          subst hD
          go_wp2
          go_ret2
          exact ⟨rfl, Below.refl _ _⟩
end Go.Proofs.Ytfbjjbbhnmoolaa.P
namespace Go.Proofs.Ytfbjjbbhnmoolaa.P
open Go.RowKit Go.Shelf Go.Proofs.YtfbjjbbhnmoolaaW.PrintWords Go.Proofs.YtfbjjbbhnmoolaaW.PrintLast Go.Proofs.YtfbjjbbhnmoolaaW.PrintMore
theorem mul64_eq (x y : Nat) (hx : x < 18446744073709551616) (hy : y < 18446744073709551616) : bits_Mul64.f x y = some (((x * y / 18446744073709551616 : Nat) : Int), ((x * y % 18446744073709551616 : Nat) : Int)) := by
  obtain ⟨bd, bt, bw, hhi⟩ := Lib.mul64_hi x y hx hy
  have ba := Lib.half_mul_le (a := x / 4294967296) (b := y / 4294967296) (by omega) (by omega)
  have bb := Lib.half_mul_le (a := x / 4294967296) (b := y % 4294967296) (by omega) (by omega)
  have bc := Lib.half_mul_le (a := x % 4294967296) (b := y / 4294967296) (by omega) (by omega)
  have ba' : x / 4294967296 * (y / 4294967296) < 18446744073709551616 := by omega
  have bb' : x / 4294967296 * (y % 4294967296) < 18446744073709551616 := by omega
  have bc' : x % 4294967296 * (y / 4294967296) < 18446744073709551616 := by omega
  have bh1 : x / 4294967296 * (y / 4294967296) + (x / 4294967296 * (y % 4294967296) + x % 4294967296 * (y % 4294967296) / 4294967296) / 4294967296 < 18446744073709551616 := by omega
  have bh : x / 4294967296 * (y / 4294967296) + (x / 4294967296 * (y % 4294967296) + x % 4294967296 * (y % 4294967296) / 4294967296) / 4294967296 + ((x / 4294967296 * (y % 4294967296) + x % 4294967296 * (y % 4294967296) / 4294967296) % 4294967296 + x % 4294967296 * (y / 4294967296)) / 4294967296 < 18446744073709551616 := by omega
  unfold bits_Mul64.f
  simp only [Mul64.maskN x hx, Mul64.maskN y hy, Mul64.divN, Mul64.mulN, Mul64.addN, Mul64.wrapN _ bd, Mul64.wrapN _ bb', Mul64.wrapN _ bt, Mul64.maskN _ bt, Mul64.wrapN _ bc', Mul64.wrapN _ bw, Mul64.wrapN _ ba', Mul64.wrapN _ bh1, Mul64.wrapN _ bh, Mul64.wrapM (x * y)]
  rw [hhi]
theorem mul64_c (x y : Nat) (hx : x < 18446744073709551616) (hy : y < 18446744073709551616) (w : World) : Calls Try.prog 110 #[.int .u64 x, .int .u64 y] w fun e w' =>
    e = .returned (.tuple #[.int .u64 ((x * y / 18446744073709551616 : Nat) : Int), .int .u64 ((x * y % 18446744073709551616 : Nat) : Int)]) ∧ Below w.heap.size w w' := by
  refine (bits_Mul64.calls x y _ _ w (mul64_eq x y hx hy)).mono ?_
  rintro e w1 ⟨rfl, hd⟩
  exact ⟨rfl, hd.below⟩
set_option maxHeartbeats 8000000 in
set_option maxRecDepth 100000 in
theorem div0_c (lo y : Nat) (hl : lo < 18446744073709551616) (hy : y < 18446744073709551616) (h0 : 0 < y) (w : World) : Calls Try.prog 111 #[.int .u64 0, .int .u64 lo, .int .u64 y] w fun e w' =>
    e = .returned (.tuple #[.int .u64 ((lo / y : Nat) : Int), .int .u64 ((lo % y : Nat) : Int)]) ∧ Below w.heap.size w w' := by
  have d1 : ((y : Int) == 0) = false := beq_eq_false_iff_ne.2 (by omega)
  have d2 : decide ((y : Int) ≤ 0) = false := decide_eq_false (by omega)
  go_enter Try.func111, Try.ntmps111
  go_wp2
  go_quiet (fail)
  go_wp2
  go_ret2
  refine ⟨?_, pw_below_drewN (Below.refl _ _) _⟩
  have e1 : IntKind.u64.wrap ((lo : Int) / (y : Int)) = ((lo / y : Nat) : Int) := by
    have h1 : ((lo : Int) / (y : Int)) = ((lo / y : Nat) : Int) := by simp
    have h2 : lo / y ≤ lo := Nat.div_le_self _ _
    rw [h1]
    exact Mul64.wrapN _ (by omega)
  rw [e1]
  simp
theorem ceil_eq (m d : Nat) (h0 : 0 < d) : ((m : Int) + d - 1) / d = ((m / d : Nat) : Int) + (if m % d = 0 then 0 else 1) := by
  have h1 := Nat.div_add_mod m d
  have h2 := Nat.mod_lt m h0
  generalize m % d = r at *
  generalize m / d = q at *
  have h3 : ((m : Nat) : Int) = (d : Int) * q + r := by rw [← h1]; simp
  rw [h3]
  by_cases z : r = 0
  · rw [if_pos z, z]
    rw [show (d : Int) * q + ((0 : Nat) : Int) + d - 1 = (d - 1 : Int) + d * q by omega, Int.add_mul_ediv_left _ _ (by omega), Int.ediv_eq_zero_of_lt (by omega) (by omega)]
    omega
  · rw [if_neg z]
    rw [show (d : Int) * q + (r : Int) + d - 1 = (r - 1 : Int) + d * (q + 1) by rw [Int.mul_add]; omega, Int.add_mul_ediv_left _ _ (by omega), Int.ediv_eq_zero_of_lt (by omega) (by omega)]
    omega
def rankR (t n d : Int) : Int × Int := if d = 0 ∨ d < n then (0, 11) else ((t * n + d - 1) / d, 0)
set_option maxHeartbeats 8000000 in
set_option maxRecDepth 100000 in
theorem rank_c (t n d : Nat) (ht : t < 18446744073709551616) (hn : n < 18446744073709551616) (hd : d < 18446744073709551616)
    (hdiv : d ≠ 0 → n ≤ d → ∀ w, Calls Try.prog 111 #[.int .u64 ((t * n / 18446744073709551616 : Nat) : Int), .int .u64 ((t * n % 18446744073709551616 : Nat) : Int), .int .u64 d] w fun e w' => e = .returned (.tuple #[.int .u64 ((t * n / d : Nat) : Int), .int .u64 ((t * n % d : Nat) : Int)]) ∧ Below w.heap.size w w')
    (w : World) : Calls Try.prog 79 #[.int .u64 t, .int .u64 n, .int .u64 d] w fun e w' => e = .returned (.tuple #[.int .u64 (rankR t n d).1, .int .i64 (rankR t n d).2]) ∧ Below w.heap.size w w' := by
  unfold rankR
  by_cases c0 : d = 0
  · rw [if_pos (.inl (by omega))]
    have d1 : ((d : Int) == 0) = true := beq_iff_eq.2 (by omega)
    clear hdiv c0
    go_enter Try.func79, Try.ntmps79
    go_wp2
    go_ret2
    exact ⟨rfl, Below.refl _ _⟩
  have d1 : ((d : Int) == 0) = false := beq_eq_false_iff_ne.2 (by omega)
  by_cases c1 : d < n
  · rw [if_pos (.inr (by omega))]
    have d2 : decide (d < n) = true := decide_eq_true c1
    clear hdiv c0 c1
    go_enter Try.func79, Try.ntmps79
    go_wp2
    go_ret2
    exact ⟨rfl, Below.refl _ _⟩
  have d2 : decide (d < n) = false := decide_eq_false c1
  rw [if_neg (by omega)]
  have DV := Aside0.mk (hdiv c0 (by omega))
  have ML := Aside0.mk (mul64_c t n ht hn)
  have hq := ceil_eq (t * n) d (by omega)
  have e_ : ((t : Int) * n) = ((t * n : Nat) : Int) := by simp
  rw [e_, hq]
  have hmod : decide (0 < t * n % d) = decide (t * n % d ≠ 0) := by simp [Nat.pos_iff_ne_zero]
  have hql : t * n / d ≤ t := Nat.div_le_of_le_mul (by rw [Nat.mul_comm]; exact Nat.mul_le_mul_right _ (by omega))
  have hq1 : t * n % d ≠ 0 → t * n / d < t := fun hr => by
    refine Nat.div_lt_of_lt_mul ?_
    rcases Nat.lt_or_ge n d with h1 | h1
    · rw [Nat.mul_comm d t]
      have : 0 < t := by rcases Nat.eq_zero_or_pos t with h | h; (· rw [h] at hr; simp at hr); exact h
      exact Nat.mul_lt_mul_of_pos_left h1 this
    · have : n = d := by omega
      rw [this] at hr
      simp at hr
  generalize t * n / 18446744073709551616 = hi at *
  generalize t * n % 18446744073709551616 = lo at *
  generalize t * n / d = q at *
  generalize t * n % d = r at *
  clear hdiv hq e_ hmod
  by_cases z : r = 0
  · rw [if_pos z]
    clear hq1
    subst z
    go_enter Try.func79, Try.ntmps79
    go_wp2_with (first | (go_at_call 110; (with_reducible refine (ML.out _).mono ?_); rintro e w1 ⟨rfl, hb⟩; have B := Aside0.mk hb; clear hb) | (go_at_call 111; (with_reducible refine (DV.out _).mono ?_); rintro e w2 ⟨rfl, hb⟩; replace B := Aside0.mk (below_then B.out B.out.size hb); clear hb))
    go_ret2
    exact ⟨by simp, B.out⟩
  · rw [if_neg z]
    have hq2 := hq1 z
    clear hq1
    have d3 : decide (0 < r) = true := decide_eq_true (by omega)
    go_enter Try.func79, Try.ntmps79
    go_wp2_with (first | (go_at_call 110; (with_reducible refine (ML.out _).mono ?_); rintro e w1 ⟨rfl, hb⟩; have B := Aside0.mk hb; clear hb) | (go_at_call 111; (with_reducible refine (DV.out _).mono ?_); rintro e w2 ⟨rfl, hb⟩; replace B := Aside0.mk (below_then B.out B.out.size hb); clear hb))
    go_ret2
    exact ⟨by simp, B.out⟩
def rank_Rank.f (t n d : Int) : Option (Int × Int) := if u64 t ∧ u64 n ∧ u64 d then some (rankR t n d) else none
theorem rank_Rank.calls (t n d : Int) (r1 r2 : Int) (w : World) (h : rank_Rank.f t n d = some (r1, r2)) : Calls Try.prog 79 #[.int .u64 t, .int .u64 n, .int .u64 d] w fun e w' => e = .returned (.tuple #[.int .u64 r1, .int .i64 r2]) ∧ Below w.heap.size w w' := by
  obtain ⟨⟨ht, hn, hd⟩, h1⟩ := of_ite_some h
  unfold u64 at ht hn hd
  obtain ⟨t, rfl⟩ := Int.eq_ofNat_of_zero_le ht.1
  obtain ⟨n, rfl⟩ := Int.eq_ofNat_of_zero_le hn.1
  obtain ⟨d, rfl⟩ := Int.eq_ofNat_of_zero_le hd.1
  have := rank_c t n d (by omega) (by omega) (by omega) (fun h0 hnd w => by
    have hlt : t * n < d * 18446744073709551616 := by
      have h1 : t * n ≤ t * d := Nat.mul_le_mul_left _ hnd
      have h2 : t * d < 18446744073709551616 * d := Nat.mul_lt_mul_of_pos_right (by omega) (by omega)
      rw [Nat.mul_comm d]; omega
    have hhi : t * n / 18446744073709551616 < d := (Nat.div_lt_iff_lt_mul (by omega)).2 hlt
    have hdm := Nat.div_add_mod' (t * n) 18446744073709551616
    have hml := Nat.mod_lt (t * n) (show 18446744073709551616 > 0 by omega)
    by_cases c : t * n / 18446744073709551616 = 0
    · have hm' : t * n < 18446744073709551616 := by omega
      rw [c, Nat.mod_eq_of_lt hm']
      exact div0_c (t * n) d hm' (by omega) (by omega) w
    · have := div64_c (t * n / 18446744073709551616) (t * n % 18446744073709551616) d (by omega) hhi hml (by omega) w
      rw [hdm] at this
      exact this) w
  rw [h1] at this
  exact this
end Go.Proofs.Ytfbjjbbhnmoolaa.P
