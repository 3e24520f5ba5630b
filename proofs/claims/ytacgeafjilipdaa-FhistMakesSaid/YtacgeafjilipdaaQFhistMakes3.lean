/- FhistMakes: the part that this text bears of the proof that the statement answers true for every input. No condition. -/
import Derived.Test.YtacgeafjilipdaaProg
import Derived.Below
import Derived.Deep.Draws
import Derived.Deep.AppendLies
import Derived.Maps.AppendAt
import Derived.OwnWalk
import Derived.Laws.BytesArg
import Derived.Laws.MakeOwn
import Derived.Laws.OwnMore
import Derived.Deep.OwnRows
import Derived.Tactics
import Derived.Lib.ConvBytes
import Derived.Laws.Slices
import Derived.WalkKit
import Derived.KernelRfl
import Derived.RowKit3
import Derived.Deep.LoopGhost
import Derived.Deep.QuietTactic
import Derived.BigQuiet
import Derived.WideLaws
import Derived.Deep.DeepCutAuto
import Derived.Deep.CutBlock
import Derived.Deep.RegionHeld3
import Derived.Laws.Rows
import Derived.Lib.AppendStr
import Derived.ArgAppend
import Derived.Laws.IdiomCopy
import Derived.OrdersHeld
import Derived.Laws.BitsLemmas
import Derived.RowKit
import Derived.Deep.Slices
import Derived.ChangeArms
import Derived.Shelf.Abstract
import Derived.WalkSpells
import Derived.RangeFuncNested
import Derived.RangeFuncBound
import Derived.RangeFuncCalls
import Derived.RangeFuncLeaves
import Derived.RangeFuncBox
import Derived.OwnWalkIn
import Derived.TacticsInMore
import Derived.LoopNIn
import Derived.LoopIn
import Derived.RegionIn
import Derived.Sort.QuietTacIn
import Derived.Deep.RegionWith
import Derived.ChangeKeysEq
import Derived.Great.Frames
import Derived.Laws.Externs
import Derived.SizedLaws
import Derived.ProofKit
import Derived.JoinedOf
import Derived.OpenShut
import Derived.ShutString
import Derived.ChangeOld
import Derived.Test.YtacgeafjilipdaaQFhistMakesWWords
import Derived.Test.YtacgeafjilipdaaQFhistMakesWLast
import Derived.Test.YtacgeafjilipdaaQFhistMakesWTab
import Derived.Test.YtacgeafjilipdaaQFhistMakesWFour
import Derived.Test.YtacgeafjilipdaaQFhistMakesWQPut
import Derived.Test.YtacgeafjilipdaaQFhistMakesWApart
import Derived.Test.YtacgeafjilipdaaQFhistMakesWArr
import Derived.Test.YtacgeafjilipdaaQFhistMakesWZeros
import Derived.Test.YtacgeafjilipdaaQFhistMakesWFoot
import Derived.Test.YtacgeafjilipdaaQFhistMakesWKept
import Derived.Test.YtacgeafjilipdaaQFhistMakesWShare
import Derived.Test.YtacgeafjilipdaaQFhistMakesWN
import Derived.Test.YtacgeafjilipdaaQFhistMakesWFootNe
import Derived.Test.YtacgeafjilipdaaQFhistMakesWAt
import Derived.Test.YtacgeafjilipdaaQFhistMakesWEqStruct
import Derived.Test.YtacgeafjilipdaaQFhistMakesWRepsOne
import Derived.Test.YtacgeafjilipdaaQFhistMakesWInv
import Derived.Test.YtacgeafjilipdaaQFhistMakesWInvWords
import Derived.Test.YtacgeafjilipdaaQFhistMakesWGuard
import Derived.Test.YtacgeafjilipdaaQFhistMakesWNEv
import Derived.Test.YtacgeafjilipdaaQFhistMakesWMore
import Derived.Test.YtacgeafjilipdaaRows
import Derived.Test.YtacgeafjilipdaaQFhistMakes0
import Derived.Test.YtacgeafjilipdaaQFhistMakes1
import Derived.Test.YtacgeafjilipdaaQFhistMakes2
namespace Go.Proofs.Ytacgeafjilipdaa.P
open Go.RowKit Go.Proofs.YtacgeafjilipdaaW.PrintWords Go.Proofs.YtacgeafjilipdaaW.PrintLast Go.Proofs.YtacgeafjilipdaaW.PrintMore
attribute [local go_sem] max2_int min2_int max_two min_two max_three min_three max_four min_four
set_option linter.unusedVariables false
set_option linter.unusedSimpArgs false
def tidepoleref10_Right.f (a0 : Int) : Option (Bool) := some (decide (a0 < 9218868437227405312))
set_option maxHeartbeats 8000000 in
set_option maxRecDepth 100000 in
theorem tidepoleref10_Right.calls (a0 : Int) (r : Bool) (w : World) (h : tidepoleref10_Right.f a0 = some r) :
  Calls Try.prog 99 #[.int .u64 a0] w fun e w' => e = .returned (.bool r) ∧ Drawn0 w w' := by
 have H : (some (decide (a0 < 9218868437227405312))) = some r := h
 clear h
 obtain rfl := Option.some.inj H
 go_enter Try.func99, Try.ntmps99
 go_wp2
 go_ret
 exact ⟨by first | rfl | (simp; done) | (simp [*]; done), by repeat (first | exact Drawn0.refl _ | apply Drawn0.step)⟩
def tidepoleref10_Side.l0 : Nat → List Int → Int → Option (Int)
 | 0, _, _ => none
 | k + 1, x1, x6 => if x6 < (x1.length : Int) then (if 0 ≤ x6 then ((tidepoleref10_Right.f (rd x1 x6)).bind fun t106 => (if t106 = true then (tidepoleref10_Side.l0 k x1 (wrap64 (x6 + 1))) else (some 22))) else (none)) else (some 0)
def tidepoleref10_Side.f (k : Nat) (l0 : List (S147)) (l1 : List Int) : Option (Int) := (tidepoleref06_Check.f k l0).bind fun t101 => (if t101 = 0 then ((tidepoleref06_Places.f k l0).bind fun t102 => (if (t102.length : Int) = (l1.length : Int) then (tidepoleref10_Side.l0 k l1 0) else (some 23))) else (some t101))
set_option maxHeartbeats 8000000 in
set_option maxRecDepth 100000 in
theorem tidepoleref10_Side.calls (k : Nat) (A0 : Option Addr) (c0 : Nat) (l0 : List (S147)) (A1 : Option Addr) (c1 : Nat) (l1 : List Int) (r : Int) (w : World) (hr0 : Kd.C k147 w A0 l0.length l0) (hc0 : l0.length ≤ c0) (hr1 : Kd.C (Kd.int .u64) w A1 l1.length l1) (hc1 : l1.length ≤ c1) (h : tidepoleref10_Side.f k l0 l1 = some r) :
  Calls Try.prog 144 #[.slice A0 l0.length c0, .slice A1 l1.length c1] w fun e w' => e = .returned (.int .i64 r) ∧ Below w.heap.size w w' := by
 have HR0 := Aside0.mk hr0
 have HC0 := Aside0.mk hc0
 clear hr0 hc0
 have HR1 := Aside0.mk hr1
 have HC1 := Aside0.mk hc1
 clear hr1 hc1
 have HB := Aside0.mk (Below.refl w.heap.size w)
 have H : ((tidepoleref06_Check.f k l0).bind fun t101 => (if t101 = 0 then ((tidepoleref06_Places.f k l0).bind fun t102 => (if (t102.length : Int) = (l1.length : Int) then (tidepoleref10_Side.l0 k l1 0) else (some 23))) else (some t101))) = some r := h
 clear h
 replace H := Option.bind_eq_some_iff.mp H
 obtain ⟨t101, A30, H⟩ := H
 replace H : (if t101 = 0 then ((tidepoleref06_Places.f k l0).bind fun t102 => (if (t102.length : Int) = (l1.length : Int) then (tidepoleref10_Side.l0 k l1 0) else (some 23))) else (some t101)) = some r := H
 have A3 := Aside0.mk A30
 clear A30
 by_cases c4 : t101 = 0
 ·rw [if_pos c4] at H
  have c4b0 : (t101 == 0) = true := beq_iff_eq.mpr c4
  have c4b1 : (t101 != 0) = false := bne_eq_false_iff_eq.mpr c4
  clear c4
  replace H := Option.bind_eq_some_iff.mp H
  obtain ⟨t102, A50, H⟩ := H
  replace H : (if (t102.length : Int) = (l1.length : Int) then (tidepoleref10_Side.l0 k l1 0) else (some 23)) = some r := H
  have A5 := Aside0.mk A50
  clear A50
  by_cases c6 : (t102.length : Int) = (l1.length : Int)
  ·rw [if_pos c6] at H
   have c6b0 : ((t102.length : Int) == (l1.length : Int)) = true := beq_iff_eq.mpr c6
   have c6b1 : ((t102.length : Int) != (l1.length : Int)) = false := bne_eq_false_iff_eq.mpr c6
   have c6b2 : (t102.length == l1.length) = true := by first | simpa using c6 | (simp at c6 ⊢; omega)
   clear c6
   have H' := Aside0.mk H
   clear H
   go_enter Try.func144, Try.ntmps144
   go_wp2_with (first | ((with_reducible refine gate_callee (f := 46) rfl ?_); refine goesL_ (some 8) rfl rfl Try.func46 (by kernel_rfl) rfl #[.slice A0 l0.length c0] rfl (by (try simp only [List.map_toArray, List.map_cons, List.map_nil]); first | done | rfl | (simp only [List.length_drop, List.length_take]; rfl)) ?_; (with_reducible refine (tidepoleref06_Check.calls k _ _ l0 t101 _ ?side1 ?side2 A3.out).mono ?_); (case side1 => repeat (first | exact HR0.out | (with_reducible refine Kd.C_alloc ?_ _) | (with_reducible refine Kd.C_drewN ?_ _) | (with_reducible refine Kd.C_drew ?_))); (case side2 => exact HC0.out); rintro e w7 ⟨rfl, hb⟩; refine ⟨_, rfl, ?_⟩; have n0_ := Aside0.mk (below_step (by repeat (first | (with_reducible first | exact HB.out | apply below_alloc | apply pw_below_drewN | apply below_drew1) | exact HB.out)) hb); clear HB; have HB := n0_; clear n0_; (try clear hb); (try clear hb2); (try clear hk); (try clear hi); clear A3) | ((with_reducible refine gate_callee (f := 34) rfl ?_); refine goesL_ (some 13) rfl rfl Try.func34 (by kernel_rfl) rfl #[.slice A0 l0.length c0] rfl (by (try simp only [List.map_toArray, List.map_cons, List.map_nil]); first | done | rfl | (simp only [List.length_drop, List.length_take]; rfl)) ?_; (with_reducible refine (tidepoleref06_Places.calls k _ _ l0 t102 _ ?side1 ?side2 A5.out).mono ?_); (case side1 => repeat (first | exact (Kd.C_below HR0.out HB.out) | (with_reducible refine Kd.C_alloc ?_ _) | (with_reducible refine Kd.C_drewN ?_ _) | (with_reducible refine Kd.C_drew ?_))); (case side2 => exact HC0.out); rintro e w8 ⟨v103, rfl, ho0, hb⟩; refine ⟨_, rfl, ?_⟩; have n0_ := Aside0.mk (Kd.R_lower ho0 (below_size (by repeat (first | (with_reducible first | exact HB.out | apply below_alloc | apply pw_below_drewN | apply below_drew1) | exact HB.out)))); have n1_ := Aside0.mk (below_step (by repeat (first | (with_reducible first | exact HB.out | apply below_alloc | apply pw_below_drewN | apply below_drew1) | exact HB.out)) hb); clear HB; have HO104 := n0_; have HB := n1_; clear n0_ n1_; (try clear hb); (try clear hb2); (try clear hk); (try clear hi); (try clear ho0); clear A5; obtain ⟨Ao9, co9, eo9⟩ := Kd.R_slice HO104.out; subst eo9))
   go_loopg [6] k (fun kq v6 w' => ∃ (x6_1 : Int), v6 = .int .i64 x6_1 ∧ Aside0 (tidepoleref10_Side.l0 kq l1 x6_1 = some r) ∧ Aside0 (kq ≤ k) ∧ Aside0 (Below w.heap.size w w'))
   case atStart => exact ⟨(0), (by first | rfl | (simp; done) | (simp [*]; done)), H', ⟨Nat.le_refl _⟩, ⟨by repeat (first | (with_reducible first | exact HB.out | apply below_alloc | apply pw_below_drewN | apply below_drew1) | exact HB.out)⟩⟩
   case round =>
    clear H'
    try clear c1
    try clear p2
    try clear c3
    try clear c4
    try clear c4b0
    try clear c4b1
    try clear c6
    try clear c6b0
    try clear c6b1
    try clear c6b2
    obtain ⟨x6_1, rfl, HA, HK1, HB⟩ := hrel
    cases gk with
    | zero => exact absurd HA.out (by simp [tidepoleref10_Side.l0])
    | succ k1 =>
     have H := HA.out
     clear HA
     simp only [tidepoleref10_Side.l0] at H
     by_cases c10 : x6_1 < (l1.length : Int)
     ·rw [if_pos c10] at H
      have c10b0 : decide (x6_1 < (l1.length : Int)) = true := decide_eq_true c10
      clear c10
      by_cases c11 : 0 ≤ x6_1
      ·rw [if_pos c11] at H
       have c11b0 : decide (0 ≤ x6_1) = true := decide_eq_true c11
       clear c11
       replace H := Option.bind_eq_some_iff.mp H
       obtain ⟨t106, A120, H⟩ := H
       replace H : (if t106 = true then (tidepoleref10_Side.l0 k1 l1 (wrap64 (x6_1 + 1))) else (some 22)) = some r := H
       have A12 := Aside0.mk A120
       clear A120
       by_cases c13 : t106 = true
       ·subst c13
        have H1 : (tidepoleref10_Side.l0 k1 l1 (wrap64 (x6_1 + 1))) = some r := by rw [if_pos rfl] at H; exact H
        clear H
        have H := H1
        clear H1
        have H' := Aside0.mk H
        clear H
        have p105 : 0 ≤ (x6_1 : Int) := of_decide_eq_true (by first | (with_reducible assumption) | assumption)
        have q105 : x6_1 < (l1.length : Int) := of_decide_eq_true (by first | (with_reducible assumption) | assumption)
        obtain ⟨ad105, e105, hx105_0⟩ := Kd.at_int HR1.out x6_1 p105 q105
        cases e105
        replace hx105_0 := (HB.out.cell (World.block_lt_of_cell? w _ hx105_0)).trans hx105_0
        replace p105 := eq_true p105
        replace q105 := eq_true q105
        go_wp2_with (first | ((with_reducible refine gate_callee (f := 99) rfl ?_); refine goesL_ (some 28) rfl rfl Try.func99 (by kernel_rfl) rfl #[.int .u64 (rd l1 x6_1)] rfl (by (try simp only [List.map_toArray, List.map_cons, List.map_nil]); first | done | rfl | (simp only [List.length_drop, List.length_take]; rfl)) ?_; (with_reducible refine (tidepoleref10_Right.calls (rd l1 x6_1) true _ A12.out).mono ?_); rintro e w' ⟨rfl, ⟨nd, rfl⟩⟩; refine ⟨_, rfl, ?_⟩; clear A12))
        go_roundg k1
        case measure => have := HK1.out; omega
        case rel => exact ⟨(wrap64 (x6_1 + 1)), (by first | rfl | (simp; done) | (simp [*]; done)), H', ⟨by have := HK1.out; omega⟩, ⟨by repeat (first | (with_reducible first | exact HB.out | apply below_alloc | apply pw_below_drewN | apply below_drew1) | exact HB.out)⟩⟩
       ·replace c13 := Bool.eq_false_iff.mpr c13
        subst c13
        have H1 : (some 22) = some r := by rw [if_neg (show ¬ (false = true) by decide)] at H; exact H
        clear H
        have H := H1
        clear H1
        obtain rfl := Option.some.inj H
        have p105 : 0 ≤ (x6_1 : Int) := of_decide_eq_true (by first | (with_reducible assumption) | assumption)
        have q105 : x6_1 < (l1.length : Int) := of_decide_eq_true (by first | (with_reducible assumption) | assumption)
        obtain ⟨ad105, e105, hx105_0⟩ := Kd.at_int HR1.out x6_1 p105 q105
        cases e105
        replace hx105_0 := (HB.out.cell (World.block_lt_of_cell? w _ hx105_0)).trans hx105_0
        replace p105 := eq_true p105
        replace q105 := eq_true q105
        go_wp2_with (first | ((with_reducible refine gate_callee (f := 99) rfl ?_); refine goesL_ (some 28) rfl rfl Try.func99 (by kernel_rfl) rfl #[.int .u64 (rd l1 x6_1)] rfl (by (try simp only [List.map_toArray, List.map_cons, List.map_nil]); first | done | rfl | (simp only [List.length_drop, List.length_take]; rfl)) ?_; (with_reducible refine (tidepoleref10_Right.calls (rd l1 x6_1) false _ A12.out).mono ?_); rintro e w' ⟨rfl, ⟨nd, rfl⟩⟩; refine ⟨_, rfl, ?_⟩; clear A12))
        go_ret
        exact ⟨by first | rfl | (simp [errW_none, errW_some] <;> rfl) | (simp [*, errW_none, errW_some] <;> rfl), by repeat (first | (with_reducible first | exact HB.out | apply below_alloc | apply pw_below_drewN | apply below_drew1) | exact HB.out)⟩
      ·rw [if_neg c11] at H
       exact absurd H (by simp)
     ·rw [if_neg c10] at H
      have c10b0 : decide (x6_1 < (l1.length : Int)) = false := decide_eq_false c10
      clear c10
      obtain rfl := Option.some.inj H
      go_wp2
      go_ret
      exact ⟨by first | rfl | (simp [errW_none, errW_some] <;> rfl) | (simp [*, errW_none, errW_some] <;> rfl), by repeat (first | (with_reducible first | exact HB.out | apply below_alloc | apply pw_below_drewN | apply below_drew1) | exact HB.out)⟩
  ·rw [if_neg c6] at H
   have c6b0 : ((t102.length : Int) == (l1.length : Int)) = false := beq_eq_false_iff_ne.mpr c6
   have c6b1 : ((t102.length : Int) != (l1.length : Int)) = true := bne_iff_ne.mpr c6
   have c6b2 : (t102.length == l1.length) = false := by first | simpa using c6 | (simp at c6 ⊢; omega)
   obtain rfl := Option.some.inj H
   go_enter Try.func144, Try.ntmps144
   go_wp2_with (first | ((with_reducible refine gate_callee (f := 46) rfl ?_); refine goesL_ (some 8) rfl rfl Try.func46 (by kernel_rfl) rfl #[.slice A0 l0.length c0] rfl (by (try simp only [List.map_toArray, List.map_cons, List.map_nil]); first | done | rfl | (simp only [List.length_drop, List.length_take]; rfl)) ?_; (with_reducible refine (tidepoleref06_Check.calls k _ _ l0 t101 _ ?side1 ?side2 A3.out).mono ?_); (case side1 => repeat (first | exact HR0.out | (with_reducible refine Kd.C_alloc ?_ _) | (with_reducible refine Kd.C_drewN ?_ _) | (with_reducible refine Kd.C_drew ?_))); (case side2 => exact HC0.out); rintro e w14 ⟨rfl, hb⟩; refine ⟨_, rfl, ?_⟩; have n0_ := Aside0.mk (below_step (by repeat (first | (with_reducible first | exact HB.out | apply below_alloc | apply pw_below_drewN | apply below_drew1) | exact HB.out)) hb); clear HB; have HB := n0_; clear n0_; (try clear hb); (try clear hb2); (try clear hk); (try clear hi); clear A3) | ((with_reducible refine gate_callee (f := 34) rfl ?_); refine goesL_ (some 13) rfl rfl Try.func34 (by kernel_rfl) rfl #[.slice A0 l0.length c0] rfl (by (try simp only [List.map_toArray, List.map_cons, List.map_nil]); first | done | rfl | (simp only [List.length_drop, List.length_take]; rfl)) ?_; (with_reducible refine (tidepoleref06_Places.calls k _ _ l0 t102 _ ?side1 ?side2 A5.out).mono ?_); (case side1 => repeat (first | exact (Kd.C_below HR0.out HB.out) | (with_reducible refine Kd.C_alloc ?_ _) | (with_reducible refine Kd.C_drewN ?_ _) | (with_reducible refine Kd.C_drew ?_))); (case side2 => exact HC0.out); rintro e w15 ⟨v103, rfl, ho0, hb⟩; refine ⟨_, rfl, ?_⟩; have n0_ := Aside0.mk (Kd.R_lower ho0 (below_size (by repeat (first | (with_reducible first | exact HB.out | apply below_alloc | apply pw_below_drewN | apply below_drew1) | exact HB.out)))); have n1_ := Aside0.mk (below_step (by repeat (first | (with_reducible first | exact HB.out | apply below_alloc | apply pw_below_drewN | apply below_drew1) | exact HB.out)) hb); clear HB; have HO104 := n0_; have HB := n1_; clear n0_ n1_; (try clear hb); (try clear hb2); (try clear hk); (try clear hi); (try clear ho0); clear A5; obtain ⟨Ao16, co16, eo16⟩ := Kd.R_slice HO104.out; subst eo16))
   go_ret
   exact ⟨by first | rfl | (simp [errW_none, errW_some] <;> rfl) | (simp [*, errW_none, errW_some] <;> rfl), by repeat (first | (with_reducible first | exact HB.out | apply below_alloc | apply pw_below_drewN | apply below_drew1) | exact HB.out)⟩
 ·rw [if_neg c4] at H
  have c4b0 : (t101 == 0) = false := beq_eq_false_iff_ne.mpr c4
  have c4b1 : (t101 != 0) = true := bne_iff_ne.mpr c4
  obtain rfl := Option.some.inj H
  go_enter Try.func144, Try.ntmps144
  go_wp2_with (first | ((with_reducible refine gate_callee (f := 46) rfl ?_); refine goesL_ (some 8) rfl rfl Try.func46 (by kernel_rfl) rfl #[.slice A0 l0.length c0] rfl (by (try simp only [List.map_toArray, List.map_cons, List.map_nil]); first | done | rfl | (simp only [List.length_drop, List.length_take]; rfl)) ?_; (with_reducible refine (tidepoleref06_Check.calls k _ _ l0 t101 _ ?side1 ?side2 A3.out).mono ?_); (case side1 => repeat (first | exact HR0.out | (with_reducible refine Kd.C_alloc ?_ _) | (with_reducible refine Kd.C_drewN ?_ _) | (with_reducible refine Kd.C_drew ?_))); (case side2 => exact HC0.out); rintro e w17 ⟨rfl, hb⟩; refine ⟨_, rfl, ?_⟩; have n0_ := Aside0.mk (below_step (by repeat (first | (with_reducible first | exact HB.out | apply below_alloc | apply pw_below_drewN | apply below_drew1) | exact HB.out)) hb); clear HB; have HB := n0_; clear n0_; (try clear hb); (try clear hb2); (try clear hk); (try clear hi); clear A3))
  go_ret
  exact ⟨by first | rfl | (simp [errW_none, errW_some] <;> rfl) | (simp [*, errW_none, errW_some] <;> rfl), by repeat (first | (with_reducible first | exact HB.out | apply below_alloc | apply pw_below_drewN | apply below_drew1) | exact HB.out)⟩
mutual
def tidepoleref10_Check.j0 : Nat → Bool → Int → Int → Int → Int → Int → List (S147) → List (S147) → List Int → List Int → Option (Int)
 | 0, _, _, _, _, _, _, _, _, _, _ => none
 | k + 1, x11, x102000, x102001, x102002, x102003, x102004, x102005, x102006, x102007, x102008 => if x11 = true then (some 21) else (if x102001 ≥ 9218868437227405312 then (some 11) else ((tidepoleref10_Right.f x102002).bind fun t102 => (if t102 = true then ((tidepoleref10_Right.f x102003).bind fun t103 => (tidepoleref10_Check.j1 k (!t103) x102000 x102001 x102002 x102003 x102004 x102005 x102006 x102007 x102008)) else (tidepoleref10_Check.j1 k true x102000 x102001 x102002 x102003 x102004 x102005 x102006 x102007 x102008))))
def tidepoleref10_Check.j1 : Nat → Bool → Int → Int → Int → Int → Int → List (S147) → List (S147) → List Int → List Int → Option (Int)
 | 0, _, _, _, _, _, _, _, _, _, _ => none
 | k + 1, x24, x102000, x102001, x102002, x102003, x102004, x102005, x102006, x102007, x102008 => if x24 = true then (some 22) else ((tidepoleref10_Side.f k x102005 x102007).bind fun t104 => (if t104 = 0 then ((tidepoleref10_Side.f k x102006 x102008).bind fun t105 => (some t105)) else (some t104)))
end
def tidepoleref10_Check.f (k : Nat) (a0_0 : Int) (a0_1 : Int) (a0_2 : Int) (a0_3 : Int) (a0_4 : Int) (l0_5 : List (S147)) (l0_6 : List (S147)) (l0_7 : List Int) (l0_8 : List Int) : Option (Int) := if a0_0 < (-4) then (tidepoleref10_Check.j0 k true a0_0 a0_1 a0_2 a0_3 a0_4 l0_5 l0_6 l0_7 l0_8) else (tidepoleref10_Check.j0 k (decide (a0_0 > 8)) a0_0 a0_1 a0_2 a0_3 a0_4 l0_5 l0_6 l0_7 l0_8)
set_option maxHeartbeats 8000000 in
set_option maxRecDepth 100000 in
theorem tidepoleref10_Check.calls (k : Nat) (a0_0 : Int) (a0_1 : Int) (a0_2 : Int) (a0_3 : Int) (a0_4 : Int) (A0_5 : Option Addr) (c0_5 : Nat) (l0_5 : List (S147)) (A0_6 : Option Addr) (c0_6 : Nat) (l0_6 : List (S147)) (A0_7 : Option Addr) (c0_7 : Nat) (l0_7 : List Int) (A0_8 : Option Addr) (c0_8 : Nat) (l0_8 : List Int) (r : Int) (w : World) (hr0_5 : Kd.C k147 w A0_5 l0_5.length l0_5) (hc0_5 : l0_5.length ≤ c0_5) (hr0_6 : Kd.C k147 w A0_6 l0_6.length l0_6) (hc0_6 : l0_6.length ≤ c0_6) (hr0_7 : Kd.C (Kd.int .u64) w A0_7 l0_7.length l0_7) (hc0_7 : l0_7.length ≤ c0_7) (hr0_8 : Kd.C (Kd.int .u64) w A0_8 l0_8.length l0_8) (hc0_8 : l0_8.length ≤ c0_8) (h : tidepoleref10_Check.f k a0_0 a0_1 a0_2 a0_3 a0_4 l0_5 l0_6 l0_7 l0_8 = some r) :
  Calls Try.prog 63 #[.agg #[.int .i64 a0_0, .int .u64 a0_1, .int .u64 a0_2, .int .u64 a0_3, .int .u64 a0_4, .slice A0_5 l0_5.length c0_5, .slice A0_6 l0_6.length c0_6, .slice A0_7 l0_7.length c0_7, .slice A0_8 l0_8.length c0_8]] w fun e w' => e = .returned (.int .i64 r) ∧ Below w.heap.size w w' := by
 have hu84 := Try.underlying84
 have HR0_5 := Aside0.mk hr0_5
 have HC0_5 := Aside0.mk hc0_5
 clear hr0_5 hc0_5
 have HR0_6 := Aside0.mk hr0_6
 have HC0_6 := Aside0.mk hc0_6
 clear hr0_6 hc0_6
 have HR0_7 := Aside0.mk hr0_7
 have HC0_7 := Aside0.mk hc0_7
 clear hr0_7 hc0_7
 have HR0_8 := Aside0.mk hr0_8
 have HC0_8 := Aside0.mk hc0_8
 clear hr0_8 hc0_8
 have HB := Aside0.mk (Below.refl w.heap.size w)
 have H : (if a0_0 < (-4) then (tidepoleref10_Check.j0 k true a0_0 a0_1 a0_2 a0_3 a0_4 l0_5 l0_6 l0_7 l0_8) else (tidepoleref10_Check.j0 k (decide (a0_0 > 8)) a0_0 a0_1 a0_2 a0_3 a0_4 l0_5 l0_6 l0_7 l0_8)) = some r := h
 clear h
 have HC2 := Aside0.mk H
 clear H
 go_enter Try.func63, Try.ntmps63
 go_upto_region 1 with (first | ((with_reducible refine gate_dst (N := 1) rfl ?_); refine box_event ?hg (N := 1) ?hd (cs := #[.int .i64 a0_0, .int .u64 a0_1, .int .u64 a0_2, .int .u64 a0_3, .int .u64 a0_4, .slice A0_5 l0_5.length c0_5, .slice A0_6 l0_6.length c0_6, .slice A0_7 l0_7.length c0_7, .slice A0_8 l0_8.length c0_8]) (t := 84) ?hr ?_; (case hd => rfl); (case hg => rfl); (case hr => first | (go_simp; done) | (go_simp; rfl)); intro gb101 hg w3 hbox hb; have n0_ := Aside0.mk (below_step (by repeat (first | (with_reducible first | exact HB.out | apply below_alloc | apply pw_below_drewN | apply below_drew1) | exact HB.out)) hb); have n1_ := Aside0.mk (hbox); have n2_ := Aside0.mk ((by rw [hg]; exact (below_size (by repeat (first | (with_reducible first | exact HB.out | apply below_alloc | apply pw_below_drewN | apply below_drew1) | exact HB.out))) : w.heap.size ≤ gb101)); have n3_ := Aside0.mk ((by rw [hg]; exact (below_size (by repeat (first | (with_reducible first | exact HB.out | apply below_alloc | apply pw_below_drewN | apply below_drew1) | exact HB.out))) : w.heap.size ≤ gb101)); clear HB; have HB := n0_; have BK101 := n1_; have GW101 := n2_; have GE101 := n3_; clear n0_ n1_ n2_ n3_; clear hb hbox hg))
 (try simp only [Act.put, List.setIfInBounds_toArray, List.set_cons_zero, List.set_cons_succ])
 go_cut [11] (fun v11 wc => ∃ (kq : Nat) (x11_1 : Bool), v11 = .bool x11_1 ∧ Aside0 (tidepoleref10_Check.j0 kq x11_1 a0_0 a0_1 a0_2 a0_3 a0_4 l0_5 l0_6 l0_7 l0_8 = some r) ∧ Aside0 (kq ≤ k) ∧ Aside0 (wc.heap[gb101]? = some (.cells #[.int .i64 a0_0, .int .u64 a0_1, .int .u64 a0_2, .int .u64 a0_3, .int .u64 a0_4, (.slice A0_5 l0_5.length c0_5), (.slice A0_6 l0_6.length c0_6), (.slice A0_7 l0_7.length c0_7), (.slice A0_8 l0_8.length c0_8)] 84 (0, 0))) ∧ Aside0 (Below w.heap.size w wc))
 case first =>
  have H := HC2.out
  clear HC2
  by_cases c4 : a0_0 < (-4)
  ·rw [if_pos c4] at H
   have c4b0 : decide (a0_0 < (-4)) = true := decide_eq_true c4
   clear c4
   (first | rw [c4b0] | (simp only [i64_w, i32_w]; rw [c4b0]) | skip)
   have H' := Aside0.mk H
   clear H
   have hcz5_0 : w3.cell? ⟨gb101, 0, none⟩ = some (.int .i64 a0_0) := (blk_cell BK101.out 0).trans rfl
   have hcz5_1 : w3.cell? ⟨gb101, 1, none⟩ = some (.int .u64 a0_1) := (blk_cell BK101.out 1).trans rfl
   have hcz5_2 : w3.cell? ⟨gb101, 2, none⟩ = some (.int .u64 a0_2) := (blk_cell BK101.out 2).trans rfl
   have hcz5_3 : w3.cell? ⟨gb101, 3, none⟩ = some (.int .u64 a0_3) := (blk_cell BK101.out 3).trans rfl
   have hcz5_4 : w3.cell? ⟨gb101, 4, none⟩ = some (.int .u64 a0_4) := (blk_cell BK101.out 4).trans rfl
   have hcz5_5 : w3.cell? ⟨gb101, 5, none⟩ = some (.slice A0_5 l0_5.length c0_5) := (blk_cell BK101.out 5).trans rfl
   have hcz5_6 : w3.cell? ⟨gb101, 6, none⟩ = some (.slice A0_6 l0_6.length c0_6) := (blk_cell BK101.out 6).trans rfl
   have hcz5_7 : w3.cell? ⟨gb101, 7, none⟩ = some (.slice A0_7 l0_7.length c0_7) := (blk_cell BK101.out 7).trans rfl
   have hcz5_8 : w3.cell? ⟨gb101, 8, none⟩ = some (.slice A0_8 l0_8.length c0_8) := (blk_cell BK101.out 8).trans rfl
   have hfz5_0 := blk_frozen BK101.out 0
   have hfz5_1 := blk_frozen BK101.out 1
   have hfz5_2 := blk_frozen BK101.out 2
   have hfz5_3 := blk_frozen BK101.out 3
   have hfz5_4 := blk_frozen BK101.out 4
   have hfz5_5 := blk_frozen BK101.out 5
   have hfz5_6 := blk_frozen BK101.out 6
   have hfz5_7 := blk_frozen BK101.out 7
   have hfz5_8 := blk_frozen BK101.out 8
   go_wp2
   go_meet
   case rel => exact ⟨_, (true), (by first | rfl | (simp; done) | (simp [*]; done)), H', ⟨by first | omega | exact Nat.le_refl _⟩, ⟨by (with_reducible repeat (first | refine blk_drewN ?_ _ | refine blk_drew ?_ | refine blk_alloc ?_ _)); exact BK101.out⟩, ⟨by repeat (first | (with_reducible first | exact HB.out | apply below_alloc | apply pw_below_drewN | apply below_drew1 | refine below_set ?_ GE101.out) | exact HB.out)⟩⟩
  ·rw [if_neg c4] at H
   have c4b0 : decide (a0_0 < (-4)) = false := decide_eq_false c4
   clear c4
   (first | rw [c4b0] | (simp only [i64_w, i32_w]; rw [c4b0]) | skip)
   have H' := Aside0.mk H
   clear H
   have hcz6_0 : w3.cell? ⟨gb101, 0, none⟩ = some (.int .i64 a0_0) := (blk_cell BK101.out 0).trans rfl
   have hcz6_1 : w3.cell? ⟨gb101, 1, none⟩ = some (.int .u64 a0_1) := (blk_cell BK101.out 1).trans rfl
   have hcz6_2 : w3.cell? ⟨gb101, 2, none⟩ = some (.int .u64 a0_2) := (blk_cell BK101.out 2).trans rfl
   have hcz6_3 : w3.cell? ⟨gb101, 3, none⟩ = some (.int .u64 a0_3) := (blk_cell BK101.out 3).trans rfl
   have hcz6_4 : w3.cell? ⟨gb101, 4, none⟩ = some (.int .u64 a0_4) := (blk_cell BK101.out 4).trans rfl
   have hcz6_5 : w3.cell? ⟨gb101, 5, none⟩ = some (.slice A0_5 l0_5.length c0_5) := (blk_cell BK101.out 5).trans rfl
   have hcz6_6 : w3.cell? ⟨gb101, 6, none⟩ = some (.slice A0_6 l0_6.length c0_6) := (blk_cell BK101.out 6).trans rfl
   have hcz6_7 : w3.cell? ⟨gb101, 7, none⟩ = some (.slice A0_7 l0_7.length c0_7) := (blk_cell BK101.out 7).trans rfl
   have hcz6_8 : w3.cell? ⟨gb101, 8, none⟩ = some (.slice A0_8 l0_8.length c0_8) := (blk_cell BK101.out 8).trans rfl
   have hfz6_0 := blk_frozen BK101.out 0
   have hfz6_1 := blk_frozen BK101.out 1
   have hfz6_2 := blk_frozen BK101.out 2
   have hfz6_3 := blk_frozen BK101.out 3
   have hfz6_4 := blk_frozen BK101.out 4
   have hfz6_5 := blk_frozen BK101.out 5
   have hfz6_6 := blk_frozen BK101.out 6
   have hfz6_7 := blk_frozen BK101.out 7
   have hfz6_8 := blk_frozen BK101.out 8
   go_wp2
   go_meet
   case rel => exact ⟨_, (decide (a0_0 > 8)), (by first | rfl | (simp; done) | (simp [*]; done)), H', ⟨by first | omega | exact Nat.le_refl _⟩, ⟨by (with_reducible repeat (first | refine blk_drewN ?_ _ | refine blk_drew ?_ | refine blk_alloc ?_ _)); exact BK101.out⟩, ⟨by repeat (first | (with_reducible first | exact HB.out | apply below_alloc | apply pw_below_drewN | apply below_drew1 | refine below_set ?_ GE101.out) | exact HB.out)⟩⟩
 case rest =>
  clear HC2
  try clear p2
  try clear c4
  try clear c4b0
  try clear c6
  try clear hcz5_0
  try clear hcz5_1
  try clear hcz5_2
  try clear hcz5_3
  try clear hcz5_4
  try clear hcz5_5
  try clear hcz5_6
  try clear hcz5_7
  try clear hcz5_8
  try clear hcz6_0
  try clear hcz6_1
  try clear hcz6_2
  try clear hcz6_3
  try clear hcz6_4
  try clear hcz6_5
  try clear hcz6_6
  try clear hcz6_7
  try clear hcz6_8
  try clear hfz5_0
  try clear hfz5_1
  try clear hfz5_2
  try clear hfz5_3
  try clear hfz5_4
  try clear hfz5_5
  try clear hfz5_6
  try clear hfz5_7
  try clear hfz5_8
  try clear hfz6_0
  try clear hfz6_1
  try clear hfz6_2
  try clear hfz6_3
  try clear hfz6_4
  try clear hfz6_5
  try clear hfz6_6
  try clear hfz6_7
  try clear hfz6_8
  obtain ⟨kq, x11_1, rfl, HA, HJ1, BK101, HB⟩ := hcut
  cases kq with
  | zero => exact absurd HA.out (by simp [tidepoleref10_Check.j0])
  | succ kj1 =>
   have H := HA.out
   clear HA
   simp only [tidepoleref10_Check.j0] at H
   by_cases c7 : x11_1 = true
   ·subst c7
    have H1 : (some 21) = some r := by rw [if_pos rfl] at H; exact H
    clear H
    have H := H1
    clear H1
    obtain rfl := Option.some.inj H
    go_wp2
    go_ret
    exact ⟨by first | rfl | (simp [errW_none, errW_some] <;> rfl) | (simp [*, errW_none, errW_some] <;> rfl), by repeat (first | (with_reducible first | exact HB.out | apply below_alloc | apply pw_below_drewN | apply below_drew1 | refine below_set ?_ GE101.out) | exact HB.out)⟩
   ·replace c7 := Bool.eq_false_iff.mpr c7
    subst c7
    have H1 : (if a0_1 ≥ 9218868437227405312 then (some 11) else ((tidepoleref10_Right.f a0_2).bind fun t102 => (if t102 = true then ((tidepoleref10_Right.f a0_3).bind fun t103 => (tidepoleref10_Check.j1 kj1 (!t103) a0_0 a0_1 a0_2 a0_3 a0_4 l0_5 l0_6 l0_7 l0_8)) else (tidepoleref10_Check.j1 kj1 true a0_0 a0_1 a0_2 a0_3 a0_4 l0_5 l0_6 l0_7 l0_8)))) = some r := by rw [if_neg (show ¬ (false = true) by decide)] at H; exact H
    clear H
    have H := H1
    clear H1
    by_cases c8 : a0_1 ≥ 9218868437227405312
    ·rw [if_pos c8] at H
     have c8b0 : decide (9218868437227405312 ≤ a0_1) = true := decide_eq_true c8
     clear c8
     obtain rfl := Option.some.inj H
     have hcz9_0 : wc.cell? ⟨gb101, 0, none⟩ = some (.int .i64 a0_0) := (blk_cell BK101.out 0).trans rfl
     have hcz9_1 : wc.cell? ⟨gb101, 1, none⟩ = some (.int .u64 a0_1) := (blk_cell BK101.out 1).trans rfl
     have hcz9_2 : wc.cell? ⟨gb101, 2, none⟩ = some (.int .u64 a0_2) := (blk_cell BK101.out 2).trans rfl
     have hcz9_3 : wc.cell? ⟨gb101, 3, none⟩ = some (.int .u64 a0_3) := (blk_cell BK101.out 3).trans rfl
     have hcz9_4 : wc.cell? ⟨gb101, 4, none⟩ = some (.int .u64 a0_4) := (blk_cell BK101.out 4).trans rfl
     have hcz9_5 : wc.cell? ⟨gb101, 5, none⟩ = some (.slice A0_5 l0_5.length c0_5) := (blk_cell BK101.out 5).trans rfl
     have hcz9_6 : wc.cell? ⟨gb101, 6, none⟩ = some (.slice A0_6 l0_6.length c0_6) := (blk_cell BK101.out 6).trans rfl
     have hcz9_7 : wc.cell? ⟨gb101, 7, none⟩ = some (.slice A0_7 l0_7.length c0_7) := (blk_cell BK101.out 7).trans rfl
     have hcz9_8 : wc.cell? ⟨gb101, 8, none⟩ = some (.slice A0_8 l0_8.length c0_8) := (blk_cell BK101.out 8).trans rfl
     have hfz9_0 := blk_frozen BK101.out 0
     have hfz9_1 := blk_frozen BK101.out 1
     have hfz9_2 := blk_frozen BK101.out 2
     have hfz9_3 := blk_frozen BK101.out 3
     have hfz9_4 := blk_frozen BK101.out 4
     have hfz9_5 := blk_frozen BK101.out 5
     have hfz9_6 := blk_frozen BK101.out 6
     have hfz9_7 := blk_frozen BK101.out 7
     have hfz9_8 := blk_frozen BK101.out 8
     go_wp2
     go_ret
     exact ⟨by first | rfl | (simp [errW_none, errW_some] <;> rfl) | (simp [*, errW_none, errW_some] <;> rfl), by repeat (first | (with_reducible first | exact HB.out | apply below_alloc | apply pw_below_drewN | apply below_drew1 | refine below_set ?_ GE101.out) | exact HB.out)⟩
    ·rw [if_neg c8] at H
     have c8b0 : decide (9218868437227405312 ≤ a0_1) = false := decide_eq_false c8
     clear c8
     have HC10 := Aside0.mk H
     clear H
     have hcz11_0 : wc.cell? ⟨gb101, 0, none⟩ = some (.int .i64 a0_0) := (blk_cell BK101.out 0).trans rfl
     have hcz11_1 : wc.cell? ⟨gb101, 1, none⟩ = some (.int .u64 a0_1) := (blk_cell BK101.out 1).trans rfl
     have hcz11_2 : wc.cell? ⟨gb101, 2, none⟩ = some (.int .u64 a0_2) := (blk_cell BK101.out 2).trans rfl
     have hcz11_3 : wc.cell? ⟨gb101, 3, none⟩ = some (.int .u64 a0_3) := (blk_cell BK101.out 3).trans rfl
     have hcz11_4 : wc.cell? ⟨gb101, 4, none⟩ = some (.int .u64 a0_4) := (blk_cell BK101.out 4).trans rfl
     have hcz11_5 : wc.cell? ⟨gb101, 5, none⟩ = some (.slice A0_5 l0_5.length c0_5) := (blk_cell BK101.out 5).trans rfl
     have hcz11_6 : wc.cell? ⟨gb101, 6, none⟩ = some (.slice A0_6 l0_6.length c0_6) := (blk_cell BK101.out 6).trans rfl
     have hcz11_7 : wc.cell? ⟨gb101, 7, none⟩ = some (.slice A0_7 l0_7.length c0_7) := (blk_cell BK101.out 7).trans rfl
     have hcz11_8 : wc.cell? ⟨gb101, 8, none⟩ = some (.slice A0_8 l0_8.length c0_8) := (blk_cell BK101.out 8).trans rfl
     have hfz11_0 := blk_frozen BK101.out 0
     have hfz11_1 := blk_frozen BK101.out 1
     have hfz11_2 := blk_frozen BK101.out 2
     have hfz11_3 := blk_frozen BK101.out 3
     have hfz11_4 := blk_frozen BK101.out 4
     have hfz11_5 := blk_frozen BK101.out 5
     have hfz11_6 := blk_frozen BK101.out 6
     have hfz11_7 := blk_frozen BK101.out 7
     have hfz11_8 := blk_frozen BK101.out 8
     go_upto_region 5 with (fail)
     go_cut [24] (fun v24 wc => ∃ (kq : Nat) (x24_9 : Bool), v24 = .bool x24_9 ∧ Aside0 (tidepoleref10_Check.j1 kq x24_9 a0_0 a0_1 a0_2 a0_3 a0_4 l0_5 l0_6 l0_7 l0_8 = some r) ∧ Aside0 (kq ≤ kj1) ∧ Aside0 (wc.heap[gb101]? = some (.cells #[.int .i64 a0_0, .int .u64 a0_1, .int .u64 a0_2, .int .u64 a0_3, .int .u64 a0_4, (.slice A0_5 l0_5.length c0_5), (.slice A0_6 l0_6.length c0_6), (.slice A0_7 l0_7.length c0_7), (.slice A0_8 l0_8.length c0_8)] 84 (0, 0))) ∧ Aside0 (Below w.heap.size w wc))
     case first =>
      have H := HC10.out
      clear HC10
      replace H := Option.bind_eq_some_iff.mp H
      obtain ⟨t102, A120, H⟩ := H
      replace H : (if t102 = true then ((tidepoleref10_Right.f a0_3).bind fun t103 => (tidepoleref10_Check.j1 kj1 (!t103) a0_0 a0_1 a0_2 a0_3 a0_4 l0_5 l0_6 l0_7 l0_8)) else (tidepoleref10_Check.j1 kj1 true a0_0 a0_1 a0_2 a0_3 a0_4 l0_5 l0_6 l0_7 l0_8)) = some r := H
      have A12 := Aside0.mk A120
      clear A120
      by_cases c13 : t102 = true
      ·subst c13
       have H1 : ((tidepoleref10_Right.f a0_3).bind fun t103 => (tidepoleref10_Check.j1 kj1 (!t103) a0_0 a0_1 a0_2 a0_3 a0_4 l0_5 l0_6 l0_7 l0_8)) = some r := by rw [if_pos rfl] at H; exact H
       clear H
       have H := H1
       clear H1
       replace H := Option.bind_eq_some_iff.mp H
       obtain ⟨t103, A140, H⟩ := H
       replace H : (tidepoleref10_Check.j1 kj1 (!t103) a0_0 a0_1 a0_2 a0_3 a0_4 l0_5 l0_6 l0_7 l0_8) = some r := H
       have A14 := Aside0.mk A140
       clear A140
       have H' := Aside0.mk H
       clear H
       have hcz15_0 : wc.cell? ⟨gb101, 0, none⟩ = some (.int .i64 a0_0) := (blk_cell BK101.out 0).trans rfl
       have hcz15_1 : wc.cell? ⟨gb101, 1, none⟩ = some (.int .u64 a0_1) := (blk_cell BK101.out 1).trans rfl
       have hcz15_2 : wc.cell? ⟨gb101, 2, none⟩ = some (.int .u64 a0_2) := (blk_cell BK101.out 2).trans rfl
       have hcz15_3 : wc.cell? ⟨gb101, 3, none⟩ = some (.int .u64 a0_3) := (blk_cell BK101.out 3).trans rfl
       have hcz15_4 : wc.cell? ⟨gb101, 4, none⟩ = some (.int .u64 a0_4) := (blk_cell BK101.out 4).trans rfl
       have hcz15_5 : wc.cell? ⟨gb101, 5, none⟩ = some (.slice A0_5 l0_5.length c0_5) := (blk_cell BK101.out 5).trans rfl
       have hcz15_6 : wc.cell? ⟨gb101, 6, none⟩ = some (.slice A0_6 l0_6.length c0_6) := (blk_cell BK101.out 6).trans rfl
       have hcz15_7 : wc.cell? ⟨gb101, 7, none⟩ = some (.slice A0_7 l0_7.length c0_7) := (blk_cell BK101.out 7).trans rfl
       have hcz15_8 : wc.cell? ⟨gb101, 8, none⟩ = some (.slice A0_8 l0_8.length c0_8) := (blk_cell BK101.out 8).trans rfl
       have hfz15_0 := blk_frozen BK101.out 0
       have hfz15_1 := blk_frozen BK101.out 1
       have hfz15_2 := blk_frozen BK101.out 2
       have hfz15_3 := blk_frozen BK101.out 3
       have hfz15_4 := blk_frozen BK101.out 4
       have hfz15_5 := blk_frozen BK101.out 5
       have hfz15_6 := blk_frozen BK101.out 6
       have hfz15_7 := blk_frozen BK101.out 7
       have hfz15_8 := blk_frozen BK101.out 8
       go_wp2_with (first | ((with_reducible refine gate_callee (f := 99) rfl ?_); refine goesL_ (some 17) rfl rfl Try.func99 (by kernel_rfl) rfl #[.int .u64 a0_2] rfl (by (try simp only [List.map_toArray, List.map_cons, List.map_nil]); first | done | rfl | (simp only [List.length_drop, List.length_take]; rfl)) ?_; (with_reducible refine (tidepoleref10_Right.calls a0_2 true _ A12.out).mono ?_); rintro e w' ⟨rfl, ⟨nd, rfl⟩⟩; refine ⟨_, rfl, ?_⟩; clear A12) | (go_at_call 99; (with_reducible refine (tidepoleref10_Right.calls a0_3 t103 _ A14.out).mono ?_); rintro e w' ⟨rfl, ⟨nd, rfl⟩⟩; clear A14))
       go_meet
       case rel => exact ⟨_, (!t103), (by first | rfl | (simp; done) | (simp [*]; done)), H', ⟨by have := HJ1.out; first | omega | exact Nat.le_refl _⟩, ⟨by (with_reducible repeat (first | refine blk_drewN ?_ _ | refine blk_drew ?_ | refine blk_alloc ?_ _)); exact BK101.out⟩, ⟨by repeat (first | (with_reducible first | exact HB.out | apply below_alloc | apply pw_below_drewN | apply below_drew1 | refine below_set ?_ GE101.out) | exact HB.out)⟩⟩
      ·replace c13 := Bool.eq_false_iff.mpr c13
       subst c13
       have H1 : (tidepoleref10_Check.j1 kj1 true a0_0 a0_1 a0_2 a0_3 a0_4 l0_5 l0_6 l0_7 l0_8) = some r := by rw [if_neg (show ¬ (false = true) by decide)] at H; exact H
       clear H
       have H := H1
       clear H1
       have H' := Aside0.mk H
       clear H
       have hcz16_0 : wc.cell? ⟨gb101, 0, none⟩ = some (.int .i64 a0_0) := (blk_cell BK101.out 0).trans rfl
       have hcz16_1 : wc.cell? ⟨gb101, 1, none⟩ = some (.int .u64 a0_1) := (blk_cell BK101.out 1).trans rfl
       have hcz16_2 : wc.cell? ⟨gb101, 2, none⟩ = some (.int .u64 a0_2) := (blk_cell BK101.out 2).trans rfl
       have hcz16_3 : wc.cell? ⟨gb101, 3, none⟩ = some (.int .u64 a0_3) := (blk_cell BK101.out 3).trans rfl
       have hcz16_4 : wc.cell? ⟨gb101, 4, none⟩ = some (.int .u64 a0_4) := (blk_cell BK101.out 4).trans rfl
       have hcz16_5 : wc.cell? ⟨gb101, 5, none⟩ = some (.slice A0_5 l0_5.length c0_5) := (blk_cell BK101.out 5).trans rfl
       have hcz16_6 : wc.cell? ⟨gb101, 6, none⟩ = some (.slice A0_6 l0_6.length c0_6) := (blk_cell BK101.out 6).trans rfl
       have hcz16_7 : wc.cell? ⟨gb101, 7, none⟩ = some (.slice A0_7 l0_7.length c0_7) := (blk_cell BK101.out 7).trans rfl
       have hcz16_8 : wc.cell? ⟨gb101, 8, none⟩ = some (.slice A0_8 l0_8.length c0_8) := (blk_cell BK101.out 8).trans rfl
       have hfz16_0 := blk_frozen BK101.out 0
       have hfz16_1 := blk_frozen BK101.out 1
       have hfz16_2 := blk_frozen BK101.out 2
       have hfz16_3 := blk_frozen BK101.out 3
       have hfz16_4 := blk_frozen BK101.out 4
       have hfz16_5 := blk_frozen BK101.out 5
       have hfz16_6 := blk_frozen BK101.out 6
       have hfz16_7 := blk_frozen BK101.out 7
       have hfz16_8 := blk_frozen BK101.out 8
       go_wp2_with (first | ((with_reducible refine gate_callee (f := 99) rfl ?_); refine goesL_ (some 17) rfl rfl Try.func99 (by kernel_rfl) rfl #[.int .u64 a0_2] rfl (by (try simp only [List.map_toArray, List.map_cons, List.map_nil]); first | done | rfl | (simp only [List.length_drop, List.length_take]; rfl)) ?_; (with_reducible refine (tidepoleref10_Right.calls a0_2 false _ A12.out).mono ?_); rintro e w' ⟨rfl, ⟨nd, rfl⟩⟩; refine ⟨_, rfl, ?_⟩; clear A12))
       go_meet
       case rel => exact ⟨_, (true), (by first | rfl | (simp; done) | (simp [*]; done)), H', ⟨by have := HJ1.out; first | omega | exact Nat.le_refl _⟩, ⟨by (with_reducible repeat (first | refine blk_drewN ?_ _ | refine blk_drew ?_ | refine blk_alloc ?_ _)); exact BK101.out⟩, ⟨by repeat (first | (with_reducible first | exact HB.out | apply below_alloc | apply pw_below_drewN | apply below_drew1 | refine below_set ?_ GE101.out) | exact HB.out)⟩⟩
     case rest =>
      clear HC10
      try clear c1
      try clear p2
      try clear c4
      try clear c4b0
      try clear c6
      try clear c7
      try clear c8
      try clear c8b0
      try clear c9
      try clear c13
      try clear hcz11_0
      try clear hcz11_1
      try clear hcz11_2
      try clear hcz11_3
      try clear hcz11_4
      try clear hcz11_5
      try clear hcz11_6
      try clear hcz11_7
      try clear hcz11_8
      try clear hcz15_0
      try clear hcz15_1
      try clear hcz15_2
      try clear hcz15_3
      try clear hcz15_4
      try clear hcz15_5
      try clear hcz15_6
      try clear hcz15_7
      try clear hcz15_8
      try clear hcz16_0
      try clear hcz16_1
      try clear hcz16_2
      try clear hcz16_3
      try clear hcz16_4
      try clear hcz16_5
      try clear hcz16_6
      try clear hcz16_7
      try clear hcz16_8
      try clear hcz5_0
      try clear hcz5_1
      try clear hcz5_2
      try clear hcz5_3
      try clear hcz5_4
      try clear hcz5_5
      try clear hcz5_6
      try clear hcz5_7
      try clear hcz5_8
      try clear hcz6_0
      try clear hcz6_1
      try clear hcz6_2
      try clear hcz6_3
      try clear hcz6_4
      try clear hcz6_5
      try clear hcz6_6
      try clear hcz6_7
      try clear hcz6_8
      try clear hcz9_0
      try clear hcz9_1
      try clear hcz9_2
      try clear hcz9_3
      try clear hcz9_4
      try clear hcz9_5
      try clear hcz9_6
      try clear hcz9_7
      try clear hcz9_8
      try clear hfz11_0
      try clear hfz11_1
      try clear hfz11_2
      try clear hfz11_3
      try clear hfz11_4
      try clear hfz11_5
      try clear hfz11_6
      try clear hfz11_7
      try clear hfz11_8
      try clear hfz15_0
      try clear hfz15_1
      try clear hfz15_2
      try clear hfz15_3
      try clear hfz15_4
      try clear hfz15_5
      try clear hfz15_6
      try clear hfz15_7
      try clear hfz15_8
      try clear hfz16_0
      try clear hfz16_1
      try clear hfz16_2
      try clear hfz16_3
      try clear hfz16_4
      try clear hfz16_5
      try clear hfz16_6
      try clear hfz16_7
      try clear hfz16_8
      try clear hfz5_0
      try clear hfz5_1
      try clear hfz5_2
      try clear hfz5_3
      try clear hfz5_4
      try clear hfz5_5
      try clear hfz5_6
      try clear hfz5_7
      try clear hfz5_8
      try clear hfz6_0
      try clear hfz6_1
      try clear hfz6_2
      try clear hfz6_3
      try clear hfz6_4
      try clear hfz6_5
      try clear hfz6_6
      try clear hfz6_7
      try clear hfz6_8
      try clear hfz9_0
      try clear hfz9_1
      try clear hfz9_2
      try clear hfz9_3
      try clear hfz9_4
      try clear hfz9_5
      try clear hfz9_6
      try clear hfz9_7
      try clear hfz9_8
      try clear p2
      obtain ⟨kq, x24_9, rfl, HA, HJ9, BK101, HB⟩ := hcut
      cases kq with
      | zero => exact absurd HA.out (by simp [tidepoleref10_Check.j1])
      | succ kj9 =>
       have H := HA.out
       clear HA
       simp only [tidepoleref10_Check.j1] at H
       by_cases c17 : x24_9 = true
       ·subst c17
        have H1 : (some 22) = some r := by rw [if_pos rfl] at H; exact H
        clear H
        have H := H1
        clear H1
        obtain rfl := Option.some.inj H
        go_wp2
        go_ret
        exact ⟨by first | rfl | (simp [errW_none, errW_some] <;> rfl) | (simp [*, errW_none, errW_some] <;> rfl), by repeat (first | (with_reducible first | exact HB.out | apply below_alloc | apply pw_below_drewN | apply below_drew1 | refine below_set ?_ GE101.out) | exact HB.out)⟩
       ·replace c17 := Bool.eq_false_iff.mpr c17
        subst c17
        have H1 : ((tidepoleref10_Side.f kj9 l0_5 l0_7).bind fun t104 => (if t104 = 0 then ((tidepoleref10_Side.f kj9 l0_6 l0_8).bind fun t105 => (some t105)) else (some t104))) = some r := by rw [if_neg (show ¬ (false = true) by decide)] at H; exact H
        clear H
        have H := H1
        clear H1
        replace H := Option.bind_eq_some_iff.mp H
        obtain ⟨t104, A180, H⟩ := H
        replace H : (if t104 = 0 then ((tidepoleref10_Side.f kj9 l0_6 l0_8).bind fun t105 => (some t105)) else (some t104)) = some r := H
        have A18 := Aside0.mk A180
        clear A180
        by_cases c19 : t104 = 0
        ·rw [if_pos c19] at H
         have c19b0 : (t104 == 0) = true := beq_iff_eq.mpr c19
         have c19b1 : (t104 != 0) = false := bne_eq_false_iff_eq.mpr c19
         clear c19
         replace H := Option.bind_eq_some_iff.mp H
         obtain ⟨t105, A200, H⟩ := H
         replace H : (some t105) = some r := H
         have A20 := Aside0.mk A200
         clear A200
         obtain rfl := Option.some.inj H
         have hcz21_0 : wc.cell? ⟨gb101, 0, none⟩ = some (.int .i64 a0_0) := (blk_cell BK101.out 0).trans rfl
         have hcz21_1 : wc.cell? ⟨gb101, 1, none⟩ = some (.int .u64 a0_1) := (blk_cell BK101.out 1).trans rfl
         have hcz21_2 : wc.cell? ⟨gb101, 2, none⟩ = some (.int .u64 a0_2) := (blk_cell BK101.out 2).trans rfl
         have hcz21_3 : wc.cell? ⟨gb101, 3, none⟩ = some (.int .u64 a0_3) := (blk_cell BK101.out 3).trans rfl
         have hcz21_4 : wc.cell? ⟨gb101, 4, none⟩ = some (.int .u64 a0_4) := (blk_cell BK101.out 4).trans rfl
         have hcz21_5 : wc.cell? ⟨gb101, 5, none⟩ = some (.slice A0_5 l0_5.length c0_5) := (blk_cell BK101.out 5).trans rfl
         have hcz21_6 : wc.cell? ⟨gb101, 6, none⟩ = some (.slice A0_6 l0_6.length c0_6) := (blk_cell BK101.out 6).trans rfl
         have hcz21_7 : wc.cell? ⟨gb101, 7, none⟩ = some (.slice A0_7 l0_7.length c0_7) := (blk_cell BK101.out 7).trans rfl
         have hcz21_8 : wc.cell? ⟨gb101, 8, none⟩ = some (.slice A0_8 l0_8.length c0_8) := (blk_cell BK101.out 8).trans rfl
         have hfz21_0 := blk_frozen BK101.out 0
         have hfz21_1 := blk_frozen BK101.out 1
         have hfz21_2 := blk_frozen BK101.out 2
         have hfz21_3 := blk_frozen BK101.out 3
         have hfz21_4 := blk_frozen BK101.out 4
         have hfz21_5 := blk_frozen BK101.out 5
         have hfz21_6 := blk_frozen BK101.out 6
         have hfz21_7 := blk_frozen BK101.out 7
         have hfz21_8 := blk_frozen BK101.out 8
         go_wp2_with (first | ((with_reducible refine gate_callee (f := 144) rfl ?_); refine goesL_ (some 29) rfl rfl Try.func144 (by kernel_rfl) rfl #[.slice A0_5 l0_5.length c0_5, .slice A0_7 l0_7.length c0_7] rfl (by (try simp only [List.map_toArray, List.map_cons, List.map_nil]); first | done | rfl | (simp only [List.length_drop, List.length_take]; rfl)) ?_; (with_reducible refine (tidepoleref10_Side.calls kj9 _ _ l0_5 _ _ l0_7 t104 _ ?side1 ?side2 ?side3 ?side4 A18.out).mono ?_); (case side1 => repeat (first | exact (Kd.C_below HR0_5.out HB.out) | (with_reducible refine Kd.C_alloc ?_ _) | (with_reducible refine Kd.C_drewN ?_ _) | (with_reducible refine Kd.C_drew ?_))); (case side2 => exact HC0_5.out); (case side3 => repeat (first | exact (Kd.C_below HR0_7.out HB.out) | (with_reducible refine Kd.C_alloc ?_ _) | (with_reducible refine Kd.C_drewN ?_ _) | (with_reducible refine Kd.C_drew ?_))); (case side4 => exact HC0_7.out); rintro e w22 ⟨rfl, hb⟩; refine ⟨_, rfl, ?_⟩; have n0_ := Aside0.mk (blk_below (g := gb101) (o := .cells #[.int .i64 a0_0, .int .u64 a0_1, .int .u64 a0_2, .int .u64 a0_3, .int .u64 a0_4, .slice A0_5 l0_5.length c0_5, .slice A0_6 l0_6.length c0_6, .slice A0_7 l0_7.length c0_7, .slice A0_8 l0_8.length c0_8] 84 (0, 0)) (by (with_reducible repeat (first | refine blk_drewN ?_ _ | refine blk_drew ?_ | refine blk_alloc ?_ _)); exact BK101.out) hb); have n1_ := Aside0.mk (below_step (by repeat (first | (with_reducible first | exact HB.out | apply below_alloc | apply pw_below_drewN | apply below_drew1 | refine below_set ?_ GE101.out) | exact HB.out)) hb); clear BK101; clear HB; have BK101 := n0_; have HB := n1_; clear n0_ n1_; (try clear hb); (try clear hb2); (try clear hk); (try clear hi); clear A18; have hcz23_0 : w22.cell? ⟨gb101, 0, none⟩ = some (.int .i64 a0_0) := (blk_cell BK101.out 0).trans rfl; have hcz23_1 : w22.cell? ⟨gb101, 1, none⟩ = some (.int .u64 a0_1) := (blk_cell BK101.out 1).trans rfl; have hcz23_2 : w22.cell? ⟨gb101, 2, none⟩ = some (.int .u64 a0_2) := (blk_cell BK101.out 2).trans rfl; have hcz23_3 : w22.cell? ⟨gb101, 3, none⟩ = some (.int .u64 a0_3) := (blk_cell BK101.out 3).trans rfl; have hcz23_4 : w22.cell? ⟨gb101, 4, none⟩ = some (.int .u64 a0_4) := (blk_cell BK101.out 4).trans rfl; have hcz23_5 : w22.cell? ⟨gb101, 5, none⟩ = some (.slice A0_5 l0_5.length c0_5) := (blk_cell BK101.out 5).trans rfl; have hcz23_6 : w22.cell? ⟨gb101, 6, none⟩ = some (.slice A0_6 l0_6.length c0_6) := (blk_cell BK101.out 6).trans rfl; have hcz23_7 : w22.cell? ⟨gb101, 7, none⟩ = some (.slice A0_7 l0_7.length c0_7) := (blk_cell BK101.out 7).trans rfl; have hcz23_8 : w22.cell? ⟨gb101, 8, none⟩ = some (.slice A0_8 l0_8.length c0_8) := (blk_cell BK101.out 8).trans rfl; have hfz23_0 := blk_frozen BK101.out 0; have hfz23_1 := blk_frozen BK101.out 1; have hfz23_2 := blk_frozen BK101.out 2; have hfz23_3 := blk_frozen BK101.out 3; have hfz23_4 := blk_frozen BK101.out 4; have hfz23_5 := blk_frozen BK101.out 5; have hfz23_6 := blk_frozen BK101.out 6; have hfz23_7 := blk_frozen BK101.out 7; have hfz23_8 := blk_frozen BK101.out 8) | ((with_reducible refine gate_callee (f := 144) rfl ?_); refine goesL_ (some 37) rfl rfl Try.func144 (by kernel_rfl) rfl #[.slice A0_6 l0_6.length c0_6, .slice A0_8 l0_8.length c0_8] rfl (by (try simp only [List.map_toArray, List.map_cons, List.map_nil]); first | done | rfl | (simp only [List.length_drop, List.length_take]; rfl)) ?_; (with_reducible refine (tidepoleref10_Side.calls kj9 _ _ l0_6 _ _ l0_8 t105 _ ?side1 ?side2 ?side3 ?side4 A20.out).mono ?_); (case side1 => repeat (first | exact (Kd.C_below HR0_6.out HB.out) | (with_reducible refine Kd.C_alloc ?_ _) | (with_reducible refine Kd.C_drewN ?_ _) | (with_reducible refine Kd.C_drew ?_))); (case side2 => exact HC0_6.out); (case side3 => repeat (first | exact (Kd.C_below HR0_8.out HB.out) | (with_reducible refine Kd.C_alloc ?_ _) | (with_reducible refine Kd.C_drewN ?_ _) | (with_reducible refine Kd.C_drew ?_))); (case side4 => exact HC0_8.out); rintro e w24 ⟨rfl, hb⟩; refine ⟨_, rfl, ?_⟩; have n0_ := Aside0.mk (blk_below (g := gb101) (o := .cells #[.int .i64 a0_0, .int .u64 a0_1, .int .u64 a0_2, .int .u64 a0_3, .int .u64 a0_4, .slice A0_5 l0_5.length c0_5, .slice A0_6 l0_6.length c0_6, .slice A0_7 l0_7.length c0_7, .slice A0_8 l0_8.length c0_8] 84 (0, 0)) (by (with_reducible repeat (first | refine blk_drewN ?_ _ | refine blk_drew ?_ | refine blk_alloc ?_ _)); exact BK101.out) hb); have n1_ := Aside0.mk (below_step (by repeat (first | (with_reducible first | exact HB.out | apply below_alloc | apply pw_below_drewN | apply below_drew1 | refine below_set ?_ GE101.out) | exact HB.out)) hb); clear BK101; clear HB; have BK101 := n0_; have HB := n1_; clear n0_ n1_; (try clear hb); (try clear hb2); (try clear hk); (try clear hi); clear A20))
         go_ret
         exact ⟨by first | rfl | (simp [errW_none, errW_some] <;> rfl) | (simp [*, errW_none, errW_some] <;> rfl), by repeat (first | (with_reducible first | exact HB.out | apply below_alloc | apply pw_below_drewN | apply below_drew1 | refine below_set ?_ GE101.out) | exact HB.out)⟩
        ·rw [if_neg c19] at H
         have c19b0 : (t104 == 0) = false := beq_eq_false_iff_ne.mpr c19
         have c19b1 : (t104 != 0) = true := bne_iff_ne.mpr c19
         obtain rfl := Option.some.inj H
         have hcz25_0 : wc.cell? ⟨gb101, 0, none⟩ = some (.int .i64 a0_0) := (blk_cell BK101.out 0).trans rfl
         have hcz25_1 : wc.cell? ⟨gb101, 1, none⟩ = some (.int .u64 a0_1) := (blk_cell BK101.out 1).trans rfl
         have hcz25_2 : wc.cell? ⟨gb101, 2, none⟩ = some (.int .u64 a0_2) := (blk_cell BK101.out 2).trans rfl
         have hcz25_3 : wc.cell? ⟨gb101, 3, none⟩ = some (.int .u64 a0_3) := (blk_cell BK101.out 3).trans rfl
         have hcz25_4 : wc.cell? ⟨gb101, 4, none⟩ = some (.int .u64 a0_4) := (blk_cell BK101.out 4).trans rfl
         have hcz25_5 : wc.cell? ⟨gb101, 5, none⟩ = some (.slice A0_5 l0_5.length c0_5) := (blk_cell BK101.out 5).trans rfl
         have hcz25_6 : wc.cell? ⟨gb101, 6, none⟩ = some (.slice A0_6 l0_6.length c0_6) := (blk_cell BK101.out 6).trans rfl
         have hcz25_7 : wc.cell? ⟨gb101, 7, none⟩ = some (.slice A0_7 l0_7.length c0_7) := (blk_cell BK101.out 7).trans rfl
         have hcz25_8 : wc.cell? ⟨gb101, 8, none⟩ = some (.slice A0_8 l0_8.length c0_8) := (blk_cell BK101.out 8).trans rfl
         have hfz25_0 := blk_frozen BK101.out 0
         have hfz25_1 := blk_frozen BK101.out 1
         have hfz25_2 := blk_frozen BK101.out 2
         have hfz25_3 := blk_frozen BK101.out 3
         have hfz25_4 := blk_frozen BK101.out 4
         have hfz25_5 := blk_frozen BK101.out 5
         have hfz25_6 := blk_frozen BK101.out 6
         have hfz25_7 := blk_frozen BK101.out 7
         have hfz25_8 := blk_frozen BK101.out 8
         go_wp2_with (first | ((with_reducible refine gate_callee (f := 144) rfl ?_); refine goesL_ (some 29) rfl rfl Try.func144 (by kernel_rfl) rfl #[.slice A0_5 l0_5.length c0_5, .slice A0_7 l0_7.length c0_7] rfl (by (try simp only [List.map_toArray, List.map_cons, List.map_nil]); first | done | rfl | (simp only [List.length_drop, List.length_take]; rfl)) ?_; (with_reducible refine (tidepoleref10_Side.calls kj9 _ _ l0_5 _ _ l0_7 t104 _ ?side1 ?side2 ?side3 ?side4 A18.out).mono ?_); (case side1 => repeat (first | exact (Kd.C_below HR0_5.out HB.out) | (with_reducible refine Kd.C_alloc ?_ _) | (with_reducible refine Kd.C_drewN ?_ _) | (with_reducible refine Kd.C_drew ?_))); (case side2 => exact HC0_5.out); (case side3 => repeat (first | exact (Kd.C_below HR0_7.out HB.out) | (with_reducible refine Kd.C_alloc ?_ _) | (with_reducible refine Kd.C_drewN ?_ _) | (with_reducible refine Kd.C_drew ?_))); (case side4 => exact HC0_7.out); rintro e w26 ⟨rfl, hb⟩; refine ⟨_, rfl, ?_⟩; have n0_ := Aside0.mk (blk_below (g := gb101) (o := .cells #[.int .i64 a0_0, .int .u64 a0_1, .int .u64 a0_2, .int .u64 a0_3, .int .u64 a0_4, .slice A0_5 l0_5.length c0_5, .slice A0_6 l0_6.length c0_6, .slice A0_7 l0_7.length c0_7, .slice A0_8 l0_8.length c0_8] 84 (0, 0)) (by (with_reducible repeat (first | refine blk_drewN ?_ _ | refine blk_drew ?_ | refine blk_alloc ?_ _)); exact BK101.out) hb); have n1_ := Aside0.mk (below_step (by repeat (first | (with_reducible first | exact HB.out | apply below_alloc | apply pw_below_drewN | apply below_drew1 | refine below_set ?_ GE101.out) | exact HB.out)) hb); clear BK101; clear HB; have BK101 := n0_; have HB := n1_; clear n0_ n1_; (try clear hb); (try clear hb2); (try clear hk); (try clear hi); clear A18))
         go_ret
         exact ⟨by first | rfl | (simp [errW_none, errW_some] <;> rfl) | (simp [*, errW_none, errW_some] <;> rfl), by repeat (first | (with_reducible first | exact HB.out | apply below_alloc | apply pw_below_drewN | apply below_drew1 | refine below_set ?_ GE101.out) | exact HB.out)⟩
end Go.Proofs.Ytacgeafjilipdaa.P
namespace Go.Proofs.Ytacgeafjilipdaa.P
open Go.RowKit Go.Shelf Go.Proofs.YtacgeafjilipdaaW.PrintWords Go.Proofs.YtacgeafjilipdaaW.PrintLast Go.Proofs.YtacgeafjilipdaaW.PrintMore
set_option linter.unusedVariables false
set_option linter.unusedSimpArgs false
theorem refSideF_loop (c : List Int) (hm : c.length < 17592186044416) : ∀ (d k i : Nat), c.length - i = d → d < k → i ≤ c.length →
    tidepoleref10_Side.l0 k c (i : Int) = some (if (c.drop i).any (fun v => !rightF v) = true then 22 else 0) := by
  intro d
  induction d with
  | zero =>
    intro k i hd hk hi
    obtain ⟨k, rfl⟩ : ∃ m, k = m + 1 := ⟨k - 1, by omega⟩
    rw [tidepoleref10_Side.l0, if_neg (by omega), drop_end (by omega)]; rfl
  | succ d ih =>
    intro k i hd hk hi
    obtain ⟨k, rfl⟩ : ∃ m, k = m + 1 := ⟨k - 1, by omega⟩
    have hlt : i < c.length := by omega
    rw [tidepoleref10_Side.l0, if_pos (by omega), if_pos (by omega), rd_at hlt, drop_at hlt, wrap_succ (by omega), List.any_cons, show tidepoleref10_Right.f c[i] = some (rightF c[i]) from rfl, Option.bind_some]
    cases hq : rightF c[i] with
    | true => rw [if_pos rfl, ih k (i + 1) (by omega) (by omega) (by omega)]; simp
    | false => rw [if_neg (by simp)]; simp
theorem refSideF_eq (l : List Sp) (c : List Int) (hl : wfSps l) (hm : c.length < 4398046511104) (k : Nat) (hk : 5120000 + c.length < k) : tidepoleref10_Side.f k (l.map toR) c = some (sideF l c).2 := by
  unfold tidepoleref10_Side.f sideF
  rw [refCheck_eq l hl k (by omega), Option.bind_some]
  by_cases h1 : spCheck l = 0
  · have hp := plN_length l 0 (fun s hs => (spRight_pos l _ _ _ (spCheck_zero h1).2 s hs).1)
    rw [if_pos h1, if_pos h1, refPlaces_eq l h1 k (by omega), Option.bind_some]
    by_cases h2 : cntN l = c.length
    · rw [if_pos (by omega), if_pos h2]
      have hlp := refSideF_loop c (by omega) c.length k 0 (by omega) (by omega) (by omega)
      rw [List.drop_zero, show ((0 : Nat) : Int) = 0 from rfl] at hlp
      rw [hlp]
      by_cases h3 : c.any (fun v => !rightF v) = true
      · rw [if_pos h3, if_pos h3]
      · rw [if_neg h3, if_neg h3]
    · rw [if_neg (by omega), if_neg h2]
  · rw [if_neg h1, if_neg h1]
theorem refCheckF_eq (h : Fh) (hw : wfF h) (k : Nat) (hk : 5120002 + h.f7.length + h.f8.length < k) : tidepoleref10_Check.f k h.f0 h.f1 h.f2 h.f3 h.f4 (h.f5.map toR) (h.f6.map toR) h.f7 h.f8 = some (checkF h) := by
  obtain ⟨k, rfl⟩ : ∃ n, k = n + 1 + 1 := ⟨k - 2, by omega⟩
  have c1 := refSideF_eq h.f5 h.f7 hw.2.2.2.2.2.1 hw.2.2.2.2.2.2.2.2.2.1 k (by omega)
  have c2 := refSideF_eq h.f6 h.f8 hw.2.2.2.2.2.2.1 hw.2.2.2.2.2.2.2.2.2.2 k (by omega)
  have r := fun v => show tidepoleref10_Right.f v = some (rightF v) from rfl
  rw [checkF_eq]
  unfold headF
  generalize (sideF h.f5 h.f7).2 = e5 at *
  generalize (sideF h.f6 h.f8).2 = e6 at *
  unfold tidepoleref10_Check.f
  by_cases k1 : h.f0 < -4
  · rw [if_pos k1, if_pos (Or.inl k1), if_pos (by omega)]
    simp [tidepoleref10_Check.j0]
  rw [if_neg k1]
  by_cases k2 : h.f0 > 8
  · rw [if_pos (Or.inr k2), if_pos (by omega), decide_eq_true k2]
    simp [tidepoleref10_Check.j0]
  rw [if_neg (show ¬ (h.f0 < -4 ∨ h.f0 > 8) by omega), decide_eq_false k2]
  by_cases k3 : h.f1 < 9218868437227405312
  rotate_left
  · rw [if_pos (show rightF h.f1 = false from decide_eq_false k3), if_pos (by omega)]
    have k3' : h.f1 ≥ 9218868437227405312 := by omega
    simp [tidepoleref10_Check.j0, k3']
  rw [if_neg (show ¬ rightF h.f1 = false by unfold rightF; rw [decide_eq_true k3]; simp)]
  have k3' : ¬ h.f1 ≥ 9218868437227405312 := by omega
  simp only [tidepoleref10_Check.j0, Bool.false_eq_true, if_false, if_neg k3', r, Option.bind_some]
  cases hq2 : rightF h.f2 with
  | false => simp [tidepoleref10_Check.j1]
  | true =>
    cases hq3 : rightF h.f3 with
    | false => simp [tidepoleref10_Check.j1]
    | true =>
      simp only [tidepoleref10_Check.j1, c1, c2, Option.bind_some]
      by_cases k5 : e5 = 0
      · simp [k5, c2]
      · simp [k5]
theorem refCheckF_c (h : Fh) (hw : wfF h) (w : World) (v : Value) (hv : GR w v h) : Calls Try.prog 63 #[v] w fun e w' => e = .returned (.int .i64 (checkF h)) ∧ Below w.heap.size w w' := by
  obtain ⟨_, _, _, _, rfl, ⟨A5, c5, rfl, i5, s5⟩, ⟨A6, c6, rfl, i6, s6⟩, ⟨A7, c7, rfl, i7, s7⟩, ⟨A8, c8, rfl, i8, s8⟩⟩ := hv
  exact tidepoleref10_Check.calls (5120003 + h.f7.length + h.f8.length) _ _ _ _ _ A5 c5 _ A6 c6 _ A7 c7 _ A8 c8 _ _ w s5 i5 s6 i6 s7 i7 s8 i8 (refCheckF_eq h hw _ (by omega))
end Go.Proofs.Ytacgeafjilipdaa.P
namespace Go.Proofs.Ytacgeafjilipdaa.P
open Go.RowKit Go.Shelf Go.Proofs.YtacgeafjilipdaaW.PrintWords Go.Proofs.YtacgeafjilipdaaW.PrintLast Go.Proofs.YtacgeafjilipdaaW.PrintMore
set_option linter.unusedVariables false
set_option linter.unusedSimpArgs false
theorem spans10_eq (l : List Sp) (hm : l.length < 8796093022208) (k : Nat) (hk : l.length < k) : tidepolelaw10_spans.f k l = some (l.map toR) := by
  unfold tidepolelaw10_spans.f
  have : ∀ (d k i : Nat), l.length - i = d → d < k → i ≤ l.length → tidepolelaw10_spans.l0 k ((l.take i).map toR) l (l.length : Int) (i : Int) = some (l.map toR) := by
    intro d
    induction d with
    | zero =>
      intro k i hd hk hi
      obtain ⟨k, rfl⟩ : ∃ m, k = m + 1 := ⟨k - 1, by omega⟩
      rw [tidepolelaw10_spans.l0, if_neg (by omega), List.take_of_length_le (by omega)]
    | succ d ih =>
      intro k i hd hk hi
      obtain ⟨k, rfl⟩ : ∃ m, k = m + 1 := ⟨k - 1, by omega⟩
      have hlt : i < l.length := by omega
      have hl1 : ((l.take i).map toR).length = i := by simp; omega
      rw [tidepolelaw10_spans.l0, if_pos (by omega), if_pos (by omega), if_pos (by omega), hl1, rdSp_at hlt, if_pos (by omega), wrap_succ (by omega), ← ih k (i + 1) (by omega) (by omega) (by omega), take_at hlt]
      simp only [List.map_append, List.map_cons, List.map_nil]
      rfl
  exact this l.length k 0 (by omega) hk (by omega)
theorem ref10_c (h : Fh) (h5 : h.f5.length < 8796093022208) (h6 : h.f6.length < 8796093022208) (w : World) (v : Value) (hv : GI w v h) : Calls Try.prog 97 #[v] w fun e w' =>
    ∃ v', e = .returned v' ∧ GR w' v' h ∧ Below w.heap.size w w' := by
  obtain ⟨A5, c5, A6, c6, A7, c7, A8, c8, rfl, ⟨_, _, e5, h51, h52⟩, ⟨_, _, e6, h61, h62⟩, ⟨_, _, e7, h71, h72⟩, ⟨_, _, e8, h81, h82⟩⟩ := hv.open_
  cases e5; cases e6; cases e7; cases e8
  obtain ⟨k, hk⟩ : ∃ k, k = h.f5.length + h.f6.length + 1 := ⟨_, rfl⟩
  refine (tidepolelaw10_ref.calls k h.f0 h.f1 h.f2 h.f3 h.f4 A5 c5 h.f5 A6 c6 h.f6 _ A7 c7 h.f7 _ A8 c8 h.f8 h.f0 h.f1 h.f2 h.f3 h.f4 (h.f5.map toR) (h.f6.map toR) h.f7 h.f8 w h52 h51 h62 h61 (SI.Vu h71 h72) (SI.Vu h81 h82) ?_).mono ?_
  · unfold tidepolelaw10_ref.f
    rw [spans10_eq _ h5 k (by omega), Option.bind_some, spans10_eq _ h6 k (by omega), Option.bind_some]
  · rintro e w1 ⟨v5, v6, v7, v8, rfl, i5, i6, i7, i8, hb⟩
    exact ⟨_, rfl, ⟨v5, v6, v7, v8, rfl, .of_R i5, .of_R i6, SI.of_Vu i7, SI.of_Vu i8⟩, hb⟩
end Go.Proofs.Ytacgeafjilipdaa.P
namespace Go.Proofs.Ytacgeafjilipdaa.P
open Go.RowKit Go.Shelf Go.Proofs.YtacgeafjilipdaaW.PrintWords Go.Proofs.YtacgeafjilipdaaW.PrintLast Go.Proofs.YtacgeafjilipdaaW.PrintMore
set_option linter.unusedVariables false
set_option linter.unusedSimpArgs false
theorem refRight_c (v : Int) (w : World) : Calls Try.prog 99 #[.int .u64 v] w fun e w' => e = .returned (.bool (rightF v)) ∧ Below w.heap.size w w' := (tidepoleref10_Right.calls v _ w rfl).mono fun e w1 h => ⟨h.1, h.2.below⟩
end Go.Proofs.Ytacgeafjilipdaa.P
namespace Go.Proofs.Ytacgeafjilipdaa.P
open Go.RowKit Go.Shelf Go.Proofs.YtacgeafjilipdaaW.PrintWords Go.Proofs.YtacgeafjilipdaaW.PrintLast Go.Proofs.YtacgeafjilipdaaW.PrintMore
set_option linter.unusedVariables false
set_option linter.unusedSimpArgs false
def wfG (h : Fh) : Prop := i64 h.f0 ∧ u64 h.f1 ∧ u64 h.f2 ∧ u64 h.f3 ∧ u64 h.f4 ∧ wfSps h.f5 ∧ wfSps h.f6 ∧ u64s h.f7 ∧ u64s h.f8
instance (h : Fh) : Decidable (wfG h) := by unfold wfG; exact inferInstance
theorem u64_all {l : List Int} (h : ∀ x ∈ l, inI .u64 x) : u64s l := fun x hx => u64_of (h x hx)
theorem wfG_of {x : S79} (h : wf79 x) : wfG x := ⟨i64_of h.1, u64_of h.2.1, u64_of h.2.2.1, u64_of h.2.2.2.1, u64_of h.2.2.2.2.1, wfSps_of h.2.2.2.2.2.1, wfSps_of h.2.2.2.2.2.2.1, u64_all h.2.2.2.2.2.2.2.1, u64_all h.2.2.2.2.2.2.2.2⟩
end Go.Proofs.Ytacgeafjilipdaa.P
namespace Go.Proofs.Ytacgeafjilipdaa.P
open Go.RowKit Go.Shelf Go.Proofs.YtacgeafjilipdaaW.PrintWords Go.Proofs.YtacgeafjilipdaaW.PrintLast Go.Proofs.YtacgeafjilipdaaW.PrintMore
set_option linter.unusedVariables false
set_option linter.unusedSimpArgs false
theorem canonical_c (l : List Sp) (hw : wfSps l) (hc : canonB true l = true) (hk : spCheck l = 0) (w : World) (v : Value) (hv : SI kSp w v l) : Calls Try.prog 47 #[v] w fun e w' => e = .returned (.bool true) ∧ Below w.heap.size w w' := by
  obtain ⟨A, c, rfl, hcc, hr⟩ := hv
  have hl := (spCheck_zero hk).1
  exact span_Canonical.calls (l.length + 2050) A c l true w hr hcc (by rw [canonical_eq l hw (by omega) _ (by omega), hc, hk]; rfl)
theorem empty10_x (a5 a6 a7 a8 : Option Addr) (c5 c6 c7 c8 : Nat) (w : World) :
    Calls Try.prog 109 #[.agg #[.int .i64 0, .int .u64 0, .int .u64 0, .int .u64 0, .int .u64 0, .slice a5 0 c5, .slice a6 0 c6, .slice a7 0 c7, .slice a8 0 c8]] w fun e w' => e = .returned (.bool true) ∧ Below w.heap.size w w' := by
  have hu := Try.underlying79
  go_enter Try.func109, Try.ntmps109
  go_wp2
  go_ret
  exact ⟨rfl, below_alloc (Below.refl _ _) _⟩
theorem GF.empty_ {b : Nat} {w : World} {v : Value} (h : GF b w v emptyF) : ∃ A5 c5 A6 c6 A7 c7 A8 c8, v = .agg #[.int .i64 0, .int .u64 0, .int .u64 0, .int .u64 0, .int .u64 0, .slice A5 0 c5, .slice A6 0 c6, .slice A7 0 c7, .slice A8 0 c8] := by
  obtain ⟨A5, c5, A6, c6, A7, c7, A8, c8, e⟩ := h.open_
  exact ⟨A5, c5, A6, c6, A7, c7, A8, c8, e⟩
end Go.Proofs.Ytacgeafjilipdaa.P
namespace Go.Proofs.Ytacgeafjilipdaa.P
open Go.RowKit Go.Shelf Go.Proofs.YtacgeafjilipdaaW.PrintWords Go.Proofs.YtacgeafjilipdaaW.PrintLast Go.Proofs.YtacgeafjilipdaaW.PrintMore
set_option linter.unusedVariables false
set_option linter.unusedSimpArgs false
structure Two (W0 W : World) (g : Nat) (p v : Int) (a b : Value) (la lb : List Int) (k1 k2 : Option Nat) : Prop where
  hb : Below W0.heap.size W0 W
  ra : Kd.R (Kd.int .i64) 3 W W0.heap.size (fun k => k1 ≠ some k) a la
  rb : Kd.R (Kd.int .u64) 62 W W0.heap.size (fun k => k2 ≠ some k) b lb
  bl : Blk W g #[.int .i64 p, .int .u64 v] 123
  l1 : ∀ k, k1 = some k → Blk W k #[.int .i64 p] 3
  l2 : ∀ k, k2 = some k → Blk W k #[.int .u64 v] 62
namespace Two
variable {W0 W : World} {g : Nat} {p v : Int} {a b : Value} {la lb : List Int} {k1 k2 : Option Nat}
theorem lt1 (h : Two W0 W g p v a b la lb k1 k2) {k : Nat} (e : k1 = some k) : k < W.heap.size := blk_lt (h.l1 k e)
theorem lt2 (h : Two W0 W g p v a b la lb k1 k2) {k : Nat} (e : k2 = some k) : k < W.heap.size := blk_lt (h.l2 k e)
theorem below (h : Two W0 W g p v a b la lb k1 k2) {W' : World} (hb : Below W.heap.size W W') : Two W0 W' g p v a b la lb k1 k2 :=
  ⟨below_then h.hb h.hb.size hb, Kd.R_below h.ra hb, Kd.R_below h.rb hb, h.bl.below hb, fun k e => (h.l1 k e).below hb, fun k e => (h.l2 k e).below hb⟩
theorem drew (h : Two W0 W g p v a b la lb k1 k2) : Two W0 W.drew g p v a b la lb k1 k2 := h.below (below_drew (Below.refl _ _))
end Two
namespace Two
variable {ops : Array Oper} {o : Oper} {c : Act} {Kc : Act → World → Prop} {Q : Exit → Act → World → Prop} {W0 W : World} {g : Nat} {p v : Int} {a b : Value} {la lb : List Int} {k1 k2 : Option Nat}
end Two
end Go.Proofs.Ytacgeafjilipdaa.P
namespace Go.Proofs.Ytacgeafjilipdaa.P
open Go.RowKit Go.Shelf Go.Proofs.YtacgeafjilipdaaW.PrintWords Go.Proofs.YtacgeafjilipdaaW.PrintLast Go.Proofs.YtacgeafjilipdaaW.PrintMore
set_option linter.unusedVariables false
set_option linter.unusedSimpArgs false
theorem same10_eq (l : List Int) (hm : l.length < 17592186044416) (k : Nat) (hk : l.length < k) : tidepolelaw10_same.f k l l = some true := by
  unfold tidepolelaw10_same.f
  rw [if_pos rfl]
  have : ∀ (d k i : Nat), l.length - i = d → d < k → i ≤ l.length → tidepolelaw10_same.l0 k l l (l.length : Int) (i : Int) = some true := by
    intro d
    induction d with
    | zero =>
      intro k i hd hk hi
      obtain ⟨k, rfl⟩ : ∃ m, k = m + 1 := ⟨k - 1, by omega⟩
      rw [tidepolelaw10_same.l0, if_neg (by omega)]
    | succ d ih =>
      intro k i hd hk hi
      obtain ⟨k, rfl⟩ : ∃ m, k = m + 1 := ⟨k - 1, by omega⟩
      rw [tidepolelaw10_same.l0, if_pos (by omega), if_pos (by omega), if_pos (by omega), if_pos (by omega), if_pos rfl, wrap_succ (by omega)]
      exact ih k (i + 1) (by omega) (by omega) (by omega)
  exact this l.length k 0 (by omega) (by omega) (by omega)
theorem same10_c (l : List Int) (hl : l.length ≤ 4096) (w : World) (u v : Value) (hu : SI (Kd.int .u64) w u l) (hv : SI (Kd.int .u64) w v l) : Calls Try.prog 102 #[u, v] w fun e w' => e = .returned (.bool true) ∧ Below w.heap.size w w' := by
  obtain ⟨A, c, rfl, hcc, hr⟩ := hu
  obtain ⟨A1, c1, rfl, hcc1, hr1⟩ := hv
  exact (tidepolelaw10_same.calls (l.length + 1) A c l A1 c1 l true w hr hcc hr1 hcc1 (same10_eq l (by omega) _ (by omega))).mono fun e w1 h => ⟨h.1, h.2.below⟩
theorem places10_eq (l : List Sp) (hw : wfSps l) (hl : l.length ≤ 4096) (kl : spCheck l = 0) (k : Nat) (hk : 5120000 < k) : tidepolelaw10_places.f k l (plN 0 l) = some true := by
  unfold tidepolelaw10_places.f
  rw [spans10_eq l (by omega) _ (by omega), Option.bind_some, refCheck_eq l hw _ (by omega), Option.bind_some, if_pos kl, Option.bind_some, refPlaces_eq l kl _ (by omega), Option.bind_some, refSame_eq _ _ (by have := places_len kl; omega) _ (by have := places_len kl; omega), Option.bind_some]
  simp
theorem places10_c (l : List Sp) (hw : wfSps l) (hl : l.length ≤ 4096) (kl : spCheck l = 0) (w : World) (u v : Value) (hu : SI kSp w u l) (hv : SI (Kd.int .i64) w v (plN 0 l)) : Calls Try.prog 101 #[u, v] w fun e w' => e = .returned (.bool true) ∧ Below w.heap.size w w' := by
  obtain ⟨A, c, rfl, hcc, hr⟩ := hu
  obtain ⟨A1, c1, rfl, hcc1, hr1⟩ := hv
  exact (tidepolelaw10_places.calls 5120001 A c l A1 c1 _ true w hr hcc hr1 hcc1 (places10_eq l hw hl kl _ (by omega)))
end Go.Proofs.Ytacgeafjilipdaa.P
namespace Go.Proofs.Ytacgeafjilipdaa.P
open Go.RowKit Go.Proofs.YtacgeafjilipdaaW.PrintWords Go.Proofs.YtacgeafjilipdaaW.PrintLast Go.Proofs.YtacgeafjilipdaaW.PrintMore
attribute [local go_sem] max2_int min2_int max_two min_two max_three min_three max_four min_four
set_option linter.unusedVariables false
set_option linter.unusedSimpArgs false
def tidepolelaw10_apart.l0 : Nat → List Int → List Int → List (S123) → Int → Int → Option (List Int × List Int)
 | 0, _, _, _, _, _ => none
 | k + 1, x4, x5, x8, x9, x10 => if x10 < x9 then (if 0 ≤ x10 then (if x10 < (x8.length : Int) then ((some (([(rd_T123 x8 x10).f0] : List Int) : List Int)).bind fun y103 => (if x4.length + y103.length < 17592186044416 then ((some (([(rd_T123 x8 x10).f1] : List Int) : List Int)).bind fun y109 => (if x5.length + y109.length < 17592186044416 then (tidepolelaw10_apart.l0 k (x4 ++ y103) (x5 ++ y109) x8 x9 (wrap64 (x10 + 1))) else (none))) else (none))) else (none)) else (none)) else (some (x4, x5))
def tidepolelaw10_apart.f (k : Nat) (l0 : List (S123)) : Option (List Int × List Int) := tidepolelaw10_apart.l0 k ([] : List Int) ([] : List Int) l0 (l0.length : Int) 0
def tidepolelaw10_apart.T6 : Bool × List (List Nat × List Nat) := (true, [([], []), ([], []), ([1], [1]), ([2], [2]), ([0, 3], [0, 3]), ([], []), ([], []), ([6], [6]), ([7], [7]), ([5, 8, 4], [5, 8]), ([4, 9, 0, 1, 2, 3, 4], [0, 4]), ([9, 10, 0, 1, 2, 3, 4, 5, 6, 7, 8, 9, 10], [5, 9])])
def tidepolelaw10_apart.B6 : List Nat := [0, 0, 2, 6, 15, 0, 0, 64, 192, 511, 1023, 2047]
theorem tidepolelaw10_apart.tab6 : rtab .any (opsOf Try.f116 6) = tidepolelaw10_apart.T6 := by kernel_rfl
theorem tidepolelaw10_apart.bits6 : waitsOk tidepolelaw10_apart.T6.2 tidepolelaw10_apart.B6 = true := by kernel_rfl
set_option maxHeartbeats 8000000 in
set_option maxRecDepth 100000 in
theorem tidepolelaw10_apart.calls (k : Nat) (A0 : Option Addr) (c0 : Nat) (l0 : List (S123)) (r1 : List Int) (r2 : List Int) (w : World) (hr0 : Kd.C k123 w A0 l0.length l0) (hc0 : l0.length ≤ c0) (h : tidepolelaw10_apart.f k l0 = some (r1, r2)) :
  Calls Try.prog 116 #[.slice A0 l0.length c0] w fun e w' => ∃ v0_ v1_ : Value, e = .returned (.tuple #[v0_, v1_]) ∧ Kd.R (Kd.int .i64) 3 w' w.heap.size (fun _ => True) v0_ r1 ∧ Kd.R (Kd.int .u64) 62 w' w.heap.size (fun _ => True) v1_ r2 ∧ Below w.heap.size w w' := by
 have hu123 := Try.underlying123
 have HR0 := Aside0.mk hr0
 have HC0 := Aside0.mk hc0
 clear hr0 hc0
 have HB := Aside0.mk (Below.refl w.heap.size w)
 have H : (tidepolelaw10_apart.l0 k ([] : List Int) ([] : List Int) l0 (l0.length : Int) 0) = some (r1, r2) := h
 clear h
 have H' := Aside0.mk H
 clear H
 go_enter Try.func116, Try.ntmps116
 go_wp2
 go_loopg [4, 5, 10] k (fun kq v4 v5 v10 w' => ∃ (x4_1 : List Int) (x5_1 : List Int) (x10_1 : Int), v10 = .int .i64 x10_1 ∧ Aside0 (tidepolelaw10_apart.l0 kq x4_1 x5_1 l0 (l0.length : Int) x10_1 = some (r1, r2)) ∧ Aside0 (kq ≤ k) ∧ Aside0 (Kd.R (Kd.int .i64) 3 w' w.heap.size (fun _ => True) v4 x4_1) ∧ Aside0 (Kd.R (Kd.int .u64) 62 w' w.heap.size (fun _ => True) v5 x5_1) ∧ Aside0 (Below w.heap.size w w'))
 case atStart => exact ⟨(([] : List Int)), (([] : List Int)), (0), (by first | rfl | (simp; done) | (simp [*]; done)), H', ⟨Nat.le_refl _⟩, ⟨by first | exact Kd.R_nil _ _ _ _ _ | exact Kd.N_nil _ _ _ _ _ | exact Kd.V_nil _ _ _ _ _ | exact Kd.Q_nil _ _ _ _ _ | exact Kd.S_nil _ _ _ _ _⟩, ⟨by first | exact Kd.R_nil _ _ _ _ _ | exact Kd.N_nil _ _ _ _ _ | exact Kd.V_nil _ _ _ _ _ | exact Kd.Q_nil _ _ _ _ _ | exact Kd.S_nil _ _ _ _ _⟩, ⟨by repeat (first | (with_reducible first | exact HB.out | apply below_alloc | apply pw_below_drewN | apply below_drew1) | exact HB.out)⟩⟩
 case round =>
  clear H'
  try clear c1
  obtain ⟨x4_1, x5_1, x10_1, rfl, HA, HK1, HO_4, HO_5, HB⟩ := hrel
  cases gk with
  | zero => exact absurd HA.out (by simp [tidepolelaw10_apart.l0])
  | succ k1 =>
   have H := HA.out
   clear HA
   simp only [tidepolelaw10_apart.l0] at H
   by_cases c2 : x10_1 < (l0.length : Int)
   ·rw [if_pos c2] at H
    have c2b0 : decide (x10_1 < (l0.length : Int)) = true := decide_eq_true c2
    clear c2
    by_cases c3 : 0 ≤ x10_1
    ·rw [if_pos c3] at H
     have c3b0 : decide (0 ≤ x10_1) = true := decide_eq_true c3
     clear c3
     by_cases c4 : x10_1 < (l0.length : Int)
     ·rw [if_pos c4] at H
      have c4b0 : decide (x10_1 < (l0.length : Int)) = true := decide_eq_true c4
      clear c4
      obtain ⟨y103, hy103⟩ : ∃ y_ : List Int, y_ = (([(rd_T123 l0 x10_1).f0] : List Int)) := ⟨_, rfl⟩
      replace H : (if x4_1.length + y103.length < 17592186044416 then ((some (([(rd_T123 l0 x10_1).f1] : List Int) : List Int)).bind fun y109 => (if x5_1.length + y109.length < 17592186044416 then (tidepolelaw10_apart.l0 k1 (x4_1 ++ y103) (x5_1 ++ y109) l0 (l0.length : Int) (wrap64 (x10_1 + 1))) else (none))) else (none)) = some (r1, r2) := by first | (rw [hy103]; with_reducible exact H) | (have H2_ := (Option.bind_some _ _).symm.trans H; rw [hy103]; with_reducible exact H2_) | (have H2_ := (Option.bind_some _ _).symm.trans H; with_reducible exact H2_) | with_reducible exact H | (rw [hy103]; exact H) | exact H
      have Ny103 := Aside0.mk hy103
      clear hy103
      by_cases c5 : x4_1.length + y103.length < 17592186044416
      ·rw [if_pos c5] at H
       have LMc5 := Aside0.mk c5
       clear c5
       obtain ⟨y106, hy106⟩ : ∃ y_ : List Int, y_ = (x4_1 ++ y103) := ⟨_, rfl⟩
       replace H : ((some (([(rd_T123 l0 x10_1).f1] : List Int) : List Int)).bind fun y109 => (if x5_1.length + y109.length < 17592186044416 then (tidepolelaw10_apart.l0 k1 y106 (x5_1 ++ y109) l0 (l0.length : Int) (wrap64 (x10_1 + 1))) else (none))) = some (r1, r2) := by first | (rw [hy106]; with_reducible exact H) | (have H2_ := (Option.bind_some _ _).symm.trans H; rw [hy106]; with_reducible exact H2_) | (have H2_ := (Option.bind_some _ _).symm.trans H; with_reducible exact H2_) | with_reducible exact H | (rw [hy106]; exact H) | exact H
       have Ny106 := Aside0.mk hy106
       clear hy106
       obtain ⟨y109, hy109⟩ : ∃ y_ : List Int, y_ = (([(rd_T123 l0 x10_1).f1] : List Int)) := ⟨_, rfl⟩
       replace H : (if x5_1.length + y109.length < 17592186044416 then (tidepolelaw10_apart.l0 k1 y106 (x5_1 ++ y109) l0 (l0.length : Int) (wrap64 (x10_1 + 1))) else (none)) = some (r1, r2) := by first | (rw [hy109]; with_reducible exact H) | (have H2_ := (Option.bind_some _ _).symm.trans H; rw [hy109]; with_reducible exact H2_) | (have H2_ := (Option.bind_some _ _).symm.trans H; with_reducible exact H2_) | with_reducible exact H | (rw [hy109]; exact H) | exact H
       have Ny109 := Aside0.mk hy109
       clear hy109
       by_cases c6 : x5_1.length + y109.length < 17592186044416
       ·rw [if_pos c6] at H
        have LMc6 := Aside0.mk c6
        clear c6
        obtain ⟨y112, hy112⟩ : ∃ y_ : List Int, y_ = (x5_1 ++ y109) := ⟨_, rfl⟩
        replace H : (tidepolelaw10_apart.l0 k1 y106 y112 l0 (l0.length : Int) (wrap64 (x10_1 + 1))) = some (r1, r2) := by first | (rw [hy112]; with_reducible exact H) | (have H2_ := (Option.bind_some _ _).symm.trans H; rw [hy112]; with_reducible exact H2_) | (have H2_ := (Option.bind_some _ _).symm.trans H; with_reducible exact H2_) | with_reducible exact H | (rw [hy112]; exact H) | exact H
        have Ny112 := Aside0.mk hy112
        clear hy112
        have H' := Aside0.mk H
        clear H
        have p101 : 0 ≤ (x10_1 : Int) := of_decide_eq_true (by first | (with_reducible assumption) | assumption)
        have q101 : x10_1 < (l0.length : Int) := of_decide_eq_true (by first | (with_reducible assumption) | assumption)
        obtain ⟨ad101, e101, hx101_0, hx101_1⟩ := at_T123 HR0.out x10_1 p101 q101
        cases e101
        replace hx101_0 := (HB.out.cell (World.block_lt_of_cell? w _ hx101_0)).trans hx101_0
        replace hx101_1 := (HB.out.cell (World.block_lt_of_cell? w _ hx101_1)).trans hx101_1
        replace p101 := eq_true p101
        replace q101 := eq_true q101
        try go_wp2_with (first | ((with_reducible refine gate_dst (N := 7) rfl ?_); refine box_event ?hg (N := 7) ?hd (cs := #[.int .i64 0, .int .u64 0]) (t := 123) ?hr ?_; (case hd => rfl); (case hg => rfl); (case hr => first | (go_simp; done) | (go_simp; rfl)); intro gb102 hg w7 hbox hb; have n0_ := Aside0.mk (Kd.R_below (by (with_reducible repeat (first | apply Kd.R_alloc | apply Kd.R_drewN | apply Kd.R_drew)); exact HO_4.out) hb); have n1_ := Aside0.mk (Kd.R_below (by (with_reducible repeat (first | apply Kd.R_alloc | apply Kd.R_drewN | apply Kd.R_drew)); exact HO_5.out) hb); have n2_ := Aside0.mk (below_step (by repeat (first | (with_reducible first | exact HB.out | apply below_alloc | apply pw_below_drewN | apply below_drew1) | exact HB.out)) hb); have n3_ := Aside0.mk (hbox); have n4_ := Aside0.mk ((by rw [hg]; exact (below_size (by repeat (first | (with_reducible first | exact HB.out | apply below_alloc | apply pw_below_drewN | apply below_drew1) | exact HB.out))) : w.heap.size ≤ gb102)); have n5_ := Aside0.mk ((by rw [hg]; exact (below_size (by repeat (first | (with_reducible first | exact HB.out | apply below_alloc | apply pw_below_drewN | apply below_drew1) | exact HB.out))) : w.heap.size ≤ gb102)); clear HO_4; clear HO_5; clear HB; have HO_4 := n0_; have HO_5 := n1_; have HB := n2_; have BK102 := n3_; have GW102 := n4_; have GE102 := n5_; clear n0_ n1_ n2_ n3_ n4_ n5_; clear hb hbox hg; have hcz8_0 : w7.cell? ⟨gb102, 0, none⟩ = some (.int .i64 0) := (blk_cell BK102.out 0).trans rfl; have hcz8_1 : w7.cell? ⟨gb102, 1, none⟩ = some (.int .u64 0) := (blk_cell BK102.out 1).trans rfl; have hfz8_0 := blk_frozen BK102.out 0; have hfz8_1 := blk_frozen BK102.out 1; obtain ⟨Ao9, co9, eo9⟩ := Kd.R_slice HO_4.out; subst eo9; obtain ⟨Ao10, co10, eo10⟩ := Kd.R_slice HO_5.out; subst eo10))
        have n0_ : Aside0 (Kd.R (Kd.int .i64) 3 ((w7.setCell ⟨gb102, 0, none⟩ (.int .i64 ((rd_T123 l0 x10_1).f0))).setCell ⟨gb102, 1, none⟩ (.int .u64 ((rd_T123 l0 x10_1).f1))) w.heap.size (fun _ => True) (.slice Ao9 x4_1.length co9) x4_1) := ⟨by (with_reducible repeat (first | apply Kd.R_alloc | apply Kd.R_drewN | apply Kd.R_drew)); exact Kd.R_mono (Kd.R_far (p := ⟨gb102, 1, none⟩) (Kd.R_far (p := ⟨gb102, 0, none⟩) (Kd.R_types HO_4.out BK102.out (by decide)) (fun _ hk => hk.2) (.int .i64 ((rd_T123 l0 x10_1).f0))) (fun _ hk => hk.2) (.int .u64 ((rd_T123 l0 x10_1).f1))) (fun _ hk => trivial)⟩
        have n1_ : Aside0 (Kd.R (Kd.int .u64) 62 ((w7.setCell ⟨gb102, 0, none⟩ (.int .i64 ((rd_T123 l0 x10_1).f0))).setCell ⟨gb102, 1, none⟩ (.int .u64 ((rd_T123 l0 x10_1).f1))) w.heap.size (fun _ => True) (.slice Ao10 x5_1.length co10) x5_1) := ⟨by (with_reducible repeat (first | apply Kd.R_alloc | apply Kd.R_drewN | apply Kd.R_drew)); exact Kd.R_mono (Kd.R_far (p := ⟨gb102, 1, none⟩) (Kd.R_far (p := ⟨gb102, 0, none⟩) (Kd.R_types HO_5.out BK102.out (by decide)) (fun _ hk => hk.2) (.int .i64 ((rd_T123 l0 x10_1).f0))) (fun _ hk => hk.2) (.int .u64 ((rd_T123 l0 x10_1).f1))) (fun _ hk => trivial)⟩
        have n2_ : Aside0 (((w7.setCell ⟨gb102, 0, none⟩ (.int .i64 ((rd_T123 l0 x10_1).f0))).setCell ⟨gb102, 1, none⟩ (.int .u64 ((rd_T123 l0 x10_1).f1))).heap[gb102]? = some (.cells #[.int .i64 ((rd_T123 l0 x10_1).f0), .int .u64 ((rd_T123 l0 x10_1).f1)] 123 (0, 0))) := ⟨by (with_reducible repeat (first | refine blk_drewN ?_ _ | refine blk_drew ?_ | refine blk_alloc ?_ _)); refine blk_put (cs := #[.int .i64 ((rd_T123 l0 x10_1).f0), .int .u64 0]) ?_ 1 _ rfl; (with_reducible repeat (first | refine blk_drewN ?_ _ | refine blk_drew ?_ | refine blk_alloc ?_ _)); refine blk_put (cs := #[.int .i64 0, .int .u64 0]) ?_ 0 _ rfl; (with_reducible repeat (first | refine blk_drewN ?_ _ | refine blk_drew ?_ | refine blk_alloc ?_ _)); exact BK102.out⟩
        have n3_ : Aside0 (Below w.heap.size w ((w7.setCell ⟨gb102, 0, none⟩ (.int .i64 ((rd_T123 l0 x10_1).f0))).setCell ⟨gb102, 1, none⟩ (.int .u64 ((rd_T123 l0 x10_1).f1)))) := ⟨by repeat (first | (with_reducible first | exact HB.out | apply below_alloc | apply pw_below_drewN | apply below_drew1 | refine below_set ?_ GE102.out) | exact HB.out)⟩
        (try clear HO_4)
        (try clear HO_5)
        (try clear BK102)
        (try clear HB)
        generalize ((w7.setCell ⟨gb102, 0, none⟩ (.int .i64 ((rd_T123 l0 x10_1).f0))).setCell ⟨gb102, 1, none⟩ (.int .u64 ((rd_T123 l0 x10_1).f1))) = w11 at n0_ n1_ n2_ n3_ ⊢
        have HO_4 := n0_
        have HO_5 := n1_
        have BK102 := n2_
        have HB := n3_
        clear n0_ n1_ n2_ n3_
        have n0_ := Aside0.mk (Kd.R_drew HO_4.out)
        have n1_ := Aside0.mk (Kd.R_drew HO_5.out)
        have n2_ := Aside0.mk (blk_drew BK102.out)
        have n3_ := Aside0.mk (below_drew1 HB.out)
        clear HO_4
        clear HO_5
        clear BK102
        clear HB
        have HO_4 := n0_
        have HO_5 := n1_
        have BK102 := n2_
        have HB := n3_
        clear n0_ n1_ n2_ n3_
        refine start_ (n := 12) (S := fun w' => w'.cell? ⟨gb102, 0, none⟩ = some (.int .i64 ((rd_T123 l0 x10_1).f0)) ∧ w'.cell? ⟨gb102, 1, none⟩ = some (.int .u64 ((rd_T123 l0 x10_1).f1))) (ds := []) #[false, false, false, false, false, false, false, false, false, false, false, false] (by kernel_rfl) rfl rfl ⟨(blk_cell BK102.out 0).trans rfl, (blk_cell BK102.out 1).trans rfl⟩ (fun hHeld => ?_); refine with_tabW tidepolelaw10_apart.tab6 tidepolelaw10_apart.bits6 (fun HT_ HW_ => ?_)
        generalize w11.drew = w12 at HO_4 HO_5 BK102 HB hHeld ⊢
        refine pure_ (i := 0) (N := some 14) (v := ?_) (a' := ?_) #[true, false, false, false, false, false, false, false, false, false, false, false] rfl rfl (any_of HT_.out (by kernel_rfl)) (fun _ _ _ h => h) (Or.inl ⟨by rfl, ?_⟩) ?_ ?_
        rotate_left
        ·intro w'
         go_simp
         with_reducible rfl
        rotate_left
        ·simp only [Act.put, List.setIfInBounds_toArray, List.set_cons_zero, List.set_cons_succ, i64_w, i32_w]
         rfl
        refine pure_ (i := 1) (N := some 15) (v := ?_) (a' := ?_) #[true, true, false, false, false, false, false, false, false, false, false, false] rfl rfl (any_of HT_.out (by kernel_rfl)) (fun _ _ _ h => h) (Or.inl ⟨by rfl, ?_⟩) ?_ ?_
        rotate_left
        ·intro w'
         go_simp
         with_reducible rfl
        rotate_left
        ·simp only [Act.put, List.setIfInBounds_toArray, List.set_cons_zero, List.set_cons_succ, i64_w, i32_w]
         rfl
        refine pure_ (i := 5) (N := some 19) (v := ?_) (a' := ?_) #[true, true, false, false, false, true, false, false, false, false, false, false] rfl rfl (any_of HT_.out (by kernel_rfl)) (fun _ _ _ h => h) (Or.inl ⟨by rfl, ?_⟩) ?_ ?_
        rotate_left
        ·intro w'
         go_simp
         with_reducible rfl
        rotate_left
        ·simp only [Act.put, List.setIfInBounds_toArray, List.set_cons_zero, List.set_cons_succ, i64_w, i32_w]
         rfl
        refine pure_ (i := 6) (N := some 20) (v := ?_) (a' := ?_) #[true, true, false, false, false, true, true, false, false, false, false, false] rfl rfl (any_of HT_.out (by kernel_rfl)) (fun _ _ _ h => h) (Or.inl ⟨by rfl, ?_⟩) ?_ ?_
        rotate_left
        ·intro w'
         go_simp
         with_reducible rfl
        rotate_left
        ·simp only [Act.put, List.setIfInBounds_toArray, List.set_cons_zero, List.set_cons_succ, i64_w, i32_w]
         rfl
        refine take_ (i := 2) (N := some 16) (v := ?_) (a' := ?_) #[true, true, true, false, false, true, true, false, false, false, false, false] rfl rfl (take_ofW HT_.out HW_.out (by kernel_rfl)) (fun _ _ _ h => h) (Or.inl ⟨by rfl, ?_⟩) hHeld ?_ ?_
        rotate_left
        ·rintro w' ⟨s0, s1⟩
         go_simp
         with_reducible rfl
        rotate_left
        ·simp only [Act.put, List.setIfInBounds_toArray, List.set_cons_zero, List.set_cons_succ, i64_w, i32_w]
         rfl
        refine take_ (i := 7) (N := some 21) (v := ?_) (a' := ?_) #[true, true, true, false, false, true, true, true, false, false, false, false] rfl rfl (take_ofW HT_.out HW_.out (by kernel_rfl)) (fun _ _ _ h => h) (Or.inl ⟨by rfl, ?_⟩) hHeld ?_ ?_
        rotate_left
        ·rintro w' ⟨s0, s1⟩
         go_simp
         with_reducible rfl
        rotate_left
        ·simp only [Act.put, List.setIfInBounds_toArray, List.set_cons_zero, List.set_cons_succ, i64_w, i32_w]
         rfl
        refine join_ (σ := Value × Value × Value) 3 #[true, true, true, true, true, true, true, true, true, false, false, false] (fun s_ => [(17, s_.1), (18, s_.2.1), (22, s_.2.2)]) (fun s_ w' => (w'.cell? ⟨gb102, 0, none⟩ = some (.int .i64 ((rd_T123 l0 x10_1).f0)) ∧ w'.cell? ⟨gb102, 1, none⟩ = some (.int .u64 ((rd_T123 l0 x10_1).f1))) ∧ (Kd.R (Kd.int .i64) 3 w' w.heap.size (fun k_ => some k_ ≠ (s_.2.1 : Value).ownBlock) s_.1 y103) ∧ (Kd.R (Kd.int .i64) 3 w' w.heap.size (fun k_ => some k_ ≠ (s_.1 : Value).ownBlock) s_.2.1 y106) ∧ (Kd.R (Kd.int .u64) 62 w' w.heap.size (fun k_ => some k_ ≠ (.slice Ao10 x5_1.length co10 : Value).ownBlock) s_.2.2 y109) ∧ (Kd.R (Kd.int .u64) 62 w' w.heap.size (fun k_ => some k_ ≠ (s_.2.2 : Value).ownBlock) (.slice Ao10 x5_1.length co10) x5_1) ∧ (w'.heap[gb102]? = some (.cells #[.int .i64 ((rd_T123 l0 x10_1).f0), .int .u64 ((rd_T123 l0 x10_1).f1)] 123 (0, 0))) ∧ (Below w.heap.size w w')) ?_ ?_
        rotate_left
        ·intro hCont
         refine two_ (i := 3) (j := 8) (Ni := some 17) (Nj := some 22) #[true, true, true, true, false, true, true, true, false, false, false, false] #[true, true, true, false, false, true, true, true, true, false, false, false] rfl rfl rfl rfl (two_of HT_.out (by kernel_rfl)) (by decide) (by decide) (fun K hK => ?_) (fun K hK => ?_)
         ·skip
          refine Kd.R_lit_step (Kd.int .i64) _ 3 ?hg (N := 17) ?hd (xs := ([(rd_T123 l0 x10_1).f0] : List Int)) (inner := [.int .i64 ((rd_T123 l0 x10_1).f0)]) (ok := fun _ => True) (okp := fun _ => True) ?hr ?hp (fun _ hk => hk) trivial (Below.refl _ _) (Nat.le_refl _) (by simp) ?_; (case hd => rfl); (case hg => rfl); (case hr => first | (go_simp; done) | (go_simp; rfl)); (case hp => exact (Reps.one (show Kd.M (Kd.int .i64) _ _ _ ((rd_T123 l0 x10_1).f0) [.int .i64 ((rd_T123 l0 x10_1).f0)] from rfl) (Reps.none _ _)))
          intro v104 w13 ho14 hb hg_ hnew_
          clear hg_ hnew_
          (first | rw [← Ny103.out] at ho14 | (simp only [Int.reduceToNat] at ho14; rw [← Ny103.out] at ho14))
          have n0_ := Aside0.mk (Kd.R_elder' (by (with_reducible repeat (first | apply Kd.R_alloc | apply Kd.R_drewN | apply Kd.R_drew)); exact HO_4.out) (Kd.R_base ho14) hb)
          have n1_ := Aside0.mk (Kd.R_below (by (with_reducible repeat (first | apply Kd.R_alloc | apply Kd.R_drewN | apply Kd.R_drew)); exact HO_5.out) hb)
          have n2_ := Aside0.mk (Kd.R_lower (Kd.R_new' ho14 (Kd.R_lt (by (with_reducible repeat (first | apply Kd.R_alloc | apply Kd.R_drewN | apply Kd.R_drew)); exact HO_4.out))) (below_size (by repeat (first | (with_reducible first | exact HB.out | apply below_alloc | apply pw_below_drewN | apply below_drew1 | refine below_set ?_ GE102.out) | exact HB.out))))
          have n3_ := Aside0.mk (blk_below (g := gb102) (o := .cells #[.int .i64 ((rd_T123 l0 x10_1).f0), .int .u64 ((rd_T123 l0 x10_1).f1)] 123 (0, 0)) (by (with_reducible repeat (first | refine blk_drewN ?_ _ | refine blk_drew ?_ | refine blk_alloc ?_ _)); exact BK102.out) hb)
          have n4_ := Aside0.mk (below_step (by repeat (first | (with_reducible first | exact HB.out | apply below_alloc | apply pw_below_drewN | apply below_drew1 | refine below_set ?_ GE102.out) | exact HB.out)) hb)
          clear HO_4
          clear HO_5
          clear BK102
          clear HB
          have HO_4 := n0_
          have HO_5 := n1_
          have HO105 := n2_
          have BK102 := n3_
          have HB := n4_
          clear n0_ n1_ n2_ n3_ n4_
          clear hb ho14
          obtain ⟨Ao16, co16, eo16⟩ := Kd.R_slice HO105.out
          (first | subst eo16 | (injection eo16 with f1_ f2_ f3_; have f4_ := f1_.symm; have f5_ := f3_.symm; clear f1_ f2_ f3_; subst f4_; subst f5_))
          refine hK.out _ _ ⟨(blk_cell BK102.out 0).trans rfl, (blk_cell BK102.out 1).trans rfl⟩ (fun hHeld => ?_)
          clear hK K
          refine norm_ (a' := ?_) ?_ ?_
          rotate_left
          ·show Act.put _ (some 17) _ = _
           simp only [Act.put, List.setIfInBounds_toArray, List.set_cons_zero, List.set_cons_succ, i64_w, i32_w]
           rfl
          refine two_ (i := 4) (j := 8) (Ni := some 18) (Nj := some 22) #[true, true, true, true, true, true, true, true, false, false, false, false] #[true, true, true, true, false, true, true, true, true, false, false, false] rfl rfl rfl rfl (two_of HT_.out (by kernel_rfl)) (by decide) (by decide) (fun K hK => ?_) (fun K hK => ?_)
          ·skip
           refine Kd.R_append_rows_step (Kd.int .i64) (w0 := w) w.heap.size (by rfl) (.tmp 14) (.tmp 17) 24 3 (.int .i64 0) 8 rfl Try.underlying24 info3 rfl (by decide) (by omega) (.slice Ao9 x4_1.length co9) x4_1 y103 _ _ _ (fun k_ => some k_ ≠ (.slice Ao16 y103.length co16 : Value).ownBlock) (fun _ => False) rfl rfl ?aO ?aR (fun _ _ h => h) (fun _ h => h.elim) ?aF ?aB ?aS ?aL ?_
           (case aR => repeat (first | exact (Kd.R_reads' HO105.out).2.2 | (with_reducible refine Kd.C_alloc ?_ _) | (with_reducible refine Kd.C_drewN ?_ _) | (with_reducible refine Kd.C_drew ?_)))
           (case aB => exact (by repeat (first | (with_reducible first | exact HB.out | apply below_alloc | apply pw_below_drewN | apply below_drew1 | refine below_set ?_ GE102.out) | exact HB.out)))
           (case aF => exact (fun k_ hk => Kd.fresh' (Kd.R_lt (by (with_reducible repeat (first | apply Kd.R_alloc | apply Kd.R_drewN | apply Kd.R_drew)); exact HO105.out)) k_ hk))
           (case aO => exact (by (with_reducible repeat (first | apply Kd.R_alloc | apply Kd.R_drewN | apply Kd.R_drew)); exact Kd.R_mono HO_4.out (fun _ hk => hk.2)))
           (case aS => exact (below_size (by repeat (first | (with_reducible first | exact HB.out | apply below_alloc | apply pw_below_drewN | apply below_drew1 | refine below_set ?_ GE102.out) | exact HB.out))))
           (case aL => have := LMc5.out; omega)
           intro v107 w15 ho hb hg hat
           rw [← Ny106.out] at ho
           have n0_ := Aside0.mk (Kd.R_over' (by (with_reducible repeat (first | apply Kd.R_alloc | apply Kd.R_drewN | apply Kd.R_drew)); exact HO_5.out) (Kd.R_typed (by (with_reducible repeat (first | apply Kd.R_alloc | apply Kd.R_drewN | apply Kd.R_drew)); exact HO_4.out)) (by decide) hg)
           have n1_ := Aside0.mk (blk_grown (g := gb102) (o := .cells #[.int .i64 ((rd_T123 l0 x10_1).f0), .int .u64 ((rd_T123 l0 x10_1).f1)] 123 (0, 0)) (by (with_reducible repeat (first | refine blk_drewN ?_ _ | refine blk_drew ?_ | refine blk_alloc ?_ _)); exact BK102.out) hg (Kd.R_ne HO_4.out BK102.out (by decide)))
           have n2_ := Aside0.mk (Kd.R_after (ok := (fun _ => True)) (by (with_reducible repeat (first | apply Kd.R_alloc | apply Kd.R_drewN | apply Kd.R_drew)); exact HO105.out) hg hat)
           have n3_ := Aside0.mk (hb)
           have n4_ := Aside0.mk (ho)
           clear HO_5
           clear BK102
           clear HO105
           clear HB
           clear HO_4
           have HO_5 := n0_
           have BK102 := n1_
           have HO105 := n2_
           have HB := n3_
           have HO108 := n4_
           clear n0_ n1_ n2_ n3_ n4_
           clear ho hb hg hat
           refine hK.out _ _ ⟨(blk_cell BK102.out 0).trans rfl, (blk_cell BK102.out 1).trans rfl⟩ (fun hHeld => ?_)
           clear hK K
           refine norm_ (a' := ?_) ?_ ?_
           rotate_left
           ·show Act.put _ (some 18) _ = _
            simp only [Act.put, List.setIfInBounds_toArray, List.set_cons_zero, List.set_cons_succ, i64_w, i32_w]
            rfl
           refine one_ (i := 8) (N := some 22) #[true, true, true, true, true, true, true, true, true, false, false, false] rfl rfl (one_of HT_.out (by kernel_rfl)) (by decide) (fun K hK => ?_)
           refine Kd.R_lit_step (Kd.int .u64) _ 62 ?hg (N := 22) ?hd (xs := ([(rd_T123 l0 x10_1).f1] : List Int)) (inner := [.int .u64 ((rd_T123 l0 x10_1).f1)]) (ok := fun _ => True) (okp := fun _ => True) ?hr ?hp (fun _ hk => hk) trivial (Below.refl _ _) (Nat.le_refl _) (by simp) ?_; (case hd => rfl); (case hg => rfl); (case hr => first | (go_simp; done) | (go_simp; rfl)); (case hp => exact (Reps.one (show Kd.M (Kd.int .u64) _ _ _ ((rd_T123 l0 x10_1).f1) [.int .u64 ((rd_T123 l0 x10_1).f1)] from rfl) (Reps.none _ _)))
           intro v110 w17 ho18 hb hg_ hnew_
           clear hg_ hnew_
           (first | rw [← Ny109.out] at ho18 | (simp only [Int.reduceToNat] at ho18; rw [← Ny109.out] at ho18))
           have n0_ := Aside0.mk (Kd.R_elder' (by (with_reducible repeat (first | apply Kd.R_alloc | apply Kd.R_drewN | apply Kd.R_drew)); exact HO_5.out) (Kd.R_base ho18) hb)
           have n1_ := Aside0.mk (Kd.R_below (by (with_reducible repeat (first | apply Kd.R_alloc | apply Kd.R_drewN | apply Kd.R_drew)); exact HO105.out) hb)
           have n2_ := Aside0.mk (Kd.R_below (by (with_reducible repeat (first | apply Kd.R_alloc | apply Kd.R_drewN | apply Kd.R_drew)); exact HO108.out) hb)
           have n3_ := Aside0.mk (Kd.R_lower (Kd.R_new' ho18 (Kd.R_lt (by (with_reducible repeat (first | apply Kd.R_alloc | apply Kd.R_drewN | apply Kd.R_drew)); exact HO_5.out))) (below_size (by repeat (first | (with_reducible first | exact HB.out | apply below_alloc | apply pw_below_drewN | apply below_drew1 | refine below_set ?_ GE102.out) | exact HB.out))))
           have n4_ := Aside0.mk (blk_below (g := gb102) (o := .cells #[.int .i64 ((rd_T123 l0 x10_1).f0), .int .u64 ((rd_T123 l0 x10_1).f1)] 123 (0, 0)) (by (with_reducible repeat (first | refine blk_drewN ?_ _ | refine blk_drew ?_ | refine blk_alloc ?_ _)); exact BK102.out) hb)
           have n5_ := Aside0.mk (below_step (by repeat (first | (with_reducible first | exact HB.out | apply below_alloc | apply pw_below_drewN | apply below_drew1 | refine below_set ?_ GE102.out) | exact HB.out)) hb)
           clear HO_5
           clear HO105
           clear HO108
           clear BK102
           clear HB
           have HO_5 := n0_
           have HO105 := n1_
           have HO108 := n2_
           have HO111 := n3_
           have BK102 := n4_
           have HB := n5_
           clear n0_ n1_ n2_ n3_ n4_ n5_
           clear hb ho18
           refine hK.out _ _ ⟨(blk_cell BK102.out 0).trans rfl, (blk_cell BK102.out 1).trans rfl⟩ (fun hHeld => ?_)
           clear hK K
           refine norm_ (a' := ?_) ?_ ?_
           rotate_left
           ·show Act.put _ (some 22) _ = _
            simp only [Act.put, List.setIfInBounds_toArray, List.set_cons_zero, List.set_cons_succ, i64_w, i32_w]
            rfl
           exact norm_ (by simp only [putAll, Act.put, List.setIfInBounds_toArray, List.set_cons_zero, List.set_cons_succ]) (hCont (.slice Ao16 y103.length co16, v107, v110) _ ⟨hHeld, (by (with_reducible repeat (first | apply Kd.R_alloc | apply Kd.R_drewN | apply Kd.R_drew)); exact Kd.R_mono HO105.out (fun _ hk => hk.2)), (by (with_reducible repeat (first | apply Kd.R_alloc | apply Kd.R_drewN | apply Kd.R_drew)); exact HO108.out), (by (with_reducible repeat (first | apply Kd.R_alloc | apply Kd.R_drewN | apply Kd.R_drew)); exact Kd.R_mono HO111.out (fun _ hk => hk.2)), (by (with_reducible repeat (first | apply Kd.R_alloc | apply Kd.R_drewN | apply Kd.R_drew)); exact Kd.R_mono HO_5.out (fun _ hk => hk.2)), (by (with_reducible repeat (first | refine blk_drewN ?_ _ | refine blk_drew ?_ | refine blk_alloc ?_ _)); exact BK102.out), (by repeat (first | (with_reducible first | exact HB.out | apply below_alloc | apply pw_below_drewN | apply below_drew1 | refine below_set ?_ GE102.out) | exact HB.out))⟩)
          ·skip
           refine Kd.R_lit_step (Kd.int .u64) _ 62 ?hg (N := 22) ?hd (xs := ([(rd_T123 l0 x10_1).f1] : List Int)) (inner := [.int .u64 ((rd_T123 l0 x10_1).f1)]) (ok := fun _ => True) (okp := fun _ => True) ?hr ?hp (fun _ hk => hk) trivial (Below.refl _ _) (Nat.le_refl _) (by simp) ?_; (case hd => rfl); (case hg => rfl); (case hr => first | (go_simp; done) | (go_simp; rfl)); (case hp => exact (Reps.one (show Kd.M (Kd.int .u64) _ _ _ ((rd_T123 l0 x10_1).f1) [.int .u64 ((rd_T123 l0 x10_1).f1)] from rfl) (Reps.none _ _)))
           intro v110 w15 ho16 hb hg_ hnew_
           clear hg_ hnew_
           (first | rw [← Ny109.out] at ho16 | (simp only [Int.reduceToNat] at ho16; rw [← Ny109.out] at ho16))
           have n0_ := Aside0.mk (Kd.R_below (by (with_reducible repeat (first | apply Kd.R_alloc | apply Kd.R_drewN | apply Kd.R_drew)); exact HO_4.out) hb)
           have n1_ := Aside0.mk (Kd.R_elder' (by (with_reducible repeat (first | apply Kd.R_alloc | apply Kd.R_drewN | apply Kd.R_drew)); exact HO_5.out) (Kd.R_base ho16) hb)
           have n2_ := Aside0.mk (Kd.R_below (by (with_reducible repeat (first | apply Kd.R_alloc | apply Kd.R_drewN | apply Kd.R_drew)); exact HO105.out) hb)
           have n3_ := Aside0.mk (Kd.R_lower (Kd.R_new' ho16 (Kd.R_lt (by (with_reducible repeat (first | apply Kd.R_alloc | apply Kd.R_drewN | apply Kd.R_drew)); exact HO_5.out))) (below_size (by repeat (first | (with_reducible first | exact HB.out | apply below_alloc | apply pw_below_drewN | apply below_drew1 | refine below_set ?_ GE102.out) | exact HB.out))))
           have n4_ := Aside0.mk (blk_below (g := gb102) (o := .cells #[.int .i64 ((rd_T123 l0 x10_1).f0), .int .u64 ((rd_T123 l0 x10_1).f1)] 123 (0, 0)) (by (with_reducible repeat (first | refine blk_drewN ?_ _ | refine blk_drew ?_ | refine blk_alloc ?_ _)); exact BK102.out) hb)
           have n5_ := Aside0.mk (below_step (by repeat (first | (with_reducible first | exact HB.out | apply below_alloc | apply pw_below_drewN | apply below_drew1 | refine below_set ?_ GE102.out) | exact HB.out)) hb)
           clear HO_4
           clear HO_5
           clear HO105
           clear BK102
           clear HB
           have HO_4 := n0_
           have HO_5 := n1_
           have HO105 := n2_
           have HO111 := n3_
           have BK102 := n4_
           have HB := n5_
           clear n0_ n1_ n2_ n3_ n4_ n5_
           clear hb ho16
           obtain ⟨Ao18, co18, eo18⟩ := Kd.R_slice HO105.out
           (first | subst eo18 | (injection eo18 with f1_ f2_ f3_; have f4_ := f1_.symm; have f5_ := f3_.symm; clear f1_ f2_ f3_; subst f4_; subst f5_))
           refine hK.out _ _ ⟨(blk_cell BK102.out 0).trans rfl, (blk_cell BK102.out 1).trans rfl⟩ (fun hHeld => ?_)
           clear hK K
           refine norm_ (a' := ?_) ?_ ?_
           rotate_left
           ·show Act.put _ (some 22) _ = _
            simp only [Act.put, List.setIfInBounds_toArray, List.set_cons_zero, List.set_cons_succ, i64_w, i32_w]
            rfl
           refine one_ (i := 4) (N := some 18) #[true, true, true, true, true, true, true, true, true, false, false, false] rfl rfl (one_of HT_.out (by kernel_rfl)) (by decide) (fun K hK => ?_)
           refine Kd.R_append_rows_step (Kd.int .i64) (w0 := w) w.heap.size (by rfl) (.tmp 14) (.tmp 17) 24 3 (.int .i64 0) 8 rfl Try.underlying24 info3 rfl (by decide) (by omega) (.slice Ao9 x4_1.length co9) x4_1 y103 _ _ _ (fun k_ => some k_ ≠ (.slice Ao18 y103.length co18 : Value).ownBlock) (fun _ => False) rfl rfl ?aO ?aR (fun _ _ h => h) (fun _ h => h.elim) ?aF ?aB ?aS ?aL ?_
           (case aR => repeat (first | exact (Kd.R_reads' HO105.out).2.2 | (with_reducible refine Kd.C_alloc ?_ _) | (with_reducible refine Kd.C_drewN ?_ _) | (with_reducible refine Kd.C_drew ?_)))
           (case aB => exact (by repeat (first | (with_reducible first | exact HB.out | apply below_alloc | apply pw_below_drewN | apply below_drew1 | refine below_set ?_ GE102.out) | exact HB.out)))
           (case aF => exact (fun k_ hk => Kd.fresh' (Kd.R_lt (by (with_reducible repeat (first | apply Kd.R_alloc | apply Kd.R_drewN | apply Kd.R_drew)); exact HO105.out)) k_ hk))
           (case aO => exact (by (with_reducible repeat (first | apply Kd.R_alloc | apply Kd.R_drewN | apply Kd.R_drew)); exact Kd.R_mono HO_4.out (fun _ hk => hk.2)))
           (case aS => exact (below_size (by repeat (first | (with_reducible first | exact HB.out | apply below_alloc | apply pw_below_drewN | apply below_drew1 | refine below_set ?_ GE102.out) | exact HB.out))))
           (case aL => have := LMc5.out; omega)
           intro v107 w17 ho hb hg hat
           rw [← Ny106.out] at ho
           have n0_ := Aside0.mk (Kd.R_over' (by (with_reducible repeat (first | apply Kd.R_alloc | apply Kd.R_drewN | apply Kd.R_drew)); exact HO_5.out) (Kd.R_typed (by (with_reducible repeat (first | apply Kd.R_alloc | apply Kd.R_drewN | apply Kd.R_drew)); exact HO_4.out)) (by decide) hg)
           have n1_ := Aside0.mk (blk_grown (g := gb102) (o := .cells #[.int .i64 ((rd_T123 l0 x10_1).f0), .int .u64 ((rd_T123 l0 x10_1).f1)] 123 (0, 0)) (by (with_reducible repeat (first | refine blk_drewN ?_ _ | refine blk_drew ?_ | refine blk_alloc ?_ _)); exact BK102.out) hg (Kd.R_ne HO_4.out BK102.out (by decide)))
           have n2_ := Aside0.mk (Kd.R_after (ok := (fun _ => True)) (by (with_reducible repeat (first | apply Kd.R_alloc | apply Kd.R_drewN | apply Kd.R_drew)); exact HO105.out) hg hat)
           have n3_ := Aside0.mk (Kd.R_over' (by (with_reducible repeat (first | apply Kd.R_alloc | apply Kd.R_drewN | apply Kd.R_drew)); exact HO111.out) (Kd.R_typed (by (with_reducible repeat (first | apply Kd.R_alloc | apply Kd.R_drewN | apply Kd.R_drew)); exact HO_4.out)) (by decide) hg)
           have n4_ := Aside0.mk (hb)
           have n5_ := Aside0.mk (ho)
           clear HO_5
           clear BK102
           clear HO105
           clear HO111
           clear HB
           clear HO_4
           have HO_5 := n0_
           have BK102 := n1_
           have HO105 := n2_
           have HO111 := n3_
           have HB := n4_
           have HO108 := n5_
           clear n0_ n1_ n2_ n3_ n4_ n5_
           clear ho hb hg hat
           refine hK.out _ _ ⟨(blk_cell BK102.out 0).trans rfl, (blk_cell BK102.out 1).trans rfl⟩ (fun hHeld => ?_)
           clear hK K
           refine norm_ (a' := ?_) ?_ ?_
           rotate_left
           ·show Act.put _ (some 18) _ = _
            simp only [Act.put, List.setIfInBounds_toArray, List.set_cons_zero, List.set_cons_succ, i64_w, i32_w]
            rfl
           exact norm_ (by simp only [putAll, Act.put, List.setIfInBounds_toArray, List.set_cons_zero, List.set_cons_succ]) (hCont (.slice Ao18 y103.length co18, v107, v110) _ ⟨hHeld, (by (with_reducible repeat (first | apply Kd.R_alloc | apply Kd.R_drewN | apply Kd.R_drew)); exact Kd.R_mono HO105.out (fun _ hk => hk.2)), (by (with_reducible repeat (first | apply Kd.R_alloc | apply Kd.R_drewN | apply Kd.R_drew)); exact HO108.out), (by (with_reducible repeat (first | apply Kd.R_alloc | apply Kd.R_drewN | apply Kd.R_drew)); exact Kd.R_mono HO111.out (fun _ hk => hk.2)), (by (with_reducible repeat (first | apply Kd.R_alloc | apply Kd.R_drewN | apply Kd.R_drew)); exact Kd.R_mono HO_5.out (fun _ hk => hk.2)), (by (with_reducible repeat (first | refine blk_drewN ?_ _ | refine blk_drew ?_ | refine blk_alloc ?_ _)); exact BK102.out), (by repeat (first | (with_reducible first | exact HB.out | apply below_alloc | apply pw_below_drewN | apply below_drew1 | refine below_set ?_ GE102.out) | exact HB.out))⟩)
         ·skip
          refine Kd.R_lit_step (Kd.int .u64) _ 62 ?hg (N := 22) ?hd (xs := ([(rd_T123 l0 x10_1).f1] : List Int)) (inner := [.int .u64 ((rd_T123 l0 x10_1).f1)]) (ok := fun _ => True) (okp := fun _ => True) ?hr ?hp (fun _ hk => hk) trivial (Below.refl _ _) (Nat.le_refl _) (by simp) ?_; (case hd => rfl); (case hg => rfl); (case hr => first | (go_simp; done) | (go_simp; rfl)); (case hp => exact (Reps.one (show Kd.M (Kd.int .u64) _ _ _ ((rd_T123 l0 x10_1).f1) [.int .u64 ((rd_T123 l0 x10_1).f1)] from rfl) (Reps.none _ _)))
          intro v110 w13 ho14 hb hg_ hnew_
          clear hg_ hnew_
          (first | rw [← Ny109.out] at ho14 | (simp only [Int.reduceToNat] at ho14; rw [← Ny109.out] at ho14))
          have n0_ := Aside0.mk (Kd.R_below (by (with_reducible repeat (first | apply Kd.R_alloc | apply Kd.R_drewN | apply Kd.R_drew)); exact HO_4.out) hb)
          have n1_ := Aside0.mk (Kd.R_elder' (by (with_reducible repeat (first | apply Kd.R_alloc | apply Kd.R_drewN | apply Kd.R_drew)); exact HO_5.out) (Kd.R_base ho14) hb)
          have n2_ := Aside0.mk (Kd.R_lower (Kd.R_new' ho14 (Kd.R_lt (by (with_reducible repeat (first | apply Kd.R_alloc | apply Kd.R_drewN | apply Kd.R_drew)); exact HO_5.out))) (below_size (by repeat (first | (with_reducible first | exact HB.out | apply below_alloc | apply pw_below_drewN | apply below_drew1 | refine below_set ?_ GE102.out) | exact HB.out))))
          have n3_ := Aside0.mk (blk_below (g := gb102) (o := .cells #[.int .i64 ((rd_T123 l0 x10_1).f0), .int .u64 ((rd_T123 l0 x10_1).f1)] 123 (0, 0)) (by (with_reducible repeat (first | refine blk_drewN ?_ _ | refine blk_drew ?_ | refine blk_alloc ?_ _)); exact BK102.out) hb)
          have n4_ := Aside0.mk (below_step (by repeat (first | (with_reducible first | exact HB.out | apply below_alloc | apply pw_below_drewN | apply below_drew1 | refine below_set ?_ GE102.out) | exact HB.out)) hb)
          clear HO_4
          clear HO_5
          clear BK102
          clear HB
          have HO_4 := n0_
          have HO_5 := n1_
          have HO111 := n2_
          have BK102 := n3_
          have HB := n4_
          clear n0_ n1_ n2_ n3_ n4_
          clear hb ho14
          refine hK.out _ _ ⟨(blk_cell BK102.out 0).trans rfl, (blk_cell BK102.out 1).trans rfl⟩ (fun hHeld => ?_)
          clear hK K
          refine norm_ (a' := ?_) ?_ ?_
          rotate_left
          ·show Act.put _ (some 22) _ = _
           simp only [Act.put, List.setIfInBounds_toArray, List.set_cons_zero, List.set_cons_succ, i64_w, i32_w]
           rfl
          refine one_ (i := 3) (N := some 17) #[true, true, true, true, false, true, true, true, true, false, false, false] rfl rfl (one_of HT_.out (by kernel_rfl)) (by decide) (fun K hK => ?_)
          refine Kd.R_lit_step (Kd.int .i64) _ 3 ?hg (N := 17) ?hd (xs := ([(rd_T123 l0 x10_1).f0] : List Int)) (inner := [.int .i64 ((rd_T123 l0 x10_1).f0)]) (ok := fun _ => True) (okp := fun _ => True) ?hr ?hp (fun _ hk => hk) trivial (Below.refl _ _) (Nat.le_refl _) (by simp) ?_; (case hd => rfl); (case hg => rfl); (case hr => first | (go_simp; done) | (go_simp; rfl)); (case hp => exact (Reps.one (show Kd.M (Kd.int .i64) _ _ _ ((rd_T123 l0 x10_1).f0) [.int .i64 ((rd_T123 l0 x10_1).f0)] from rfl) (Reps.none _ _)))
          intro v104 w15 ho16 hb hg_ hnew_
          clear hg_ hnew_
          (first | rw [← Ny103.out] at ho16 | (simp only [Int.reduceToNat] at ho16; rw [← Ny103.out] at ho16))
          have n0_ := Aside0.mk (Kd.R_elder' (by (with_reducible repeat (first | apply Kd.R_alloc | apply Kd.R_drewN | apply Kd.R_drew)); exact HO_4.out) (Kd.R_base ho16) hb)
          have n1_ := Aside0.mk (Kd.R_below (by (with_reducible repeat (first | apply Kd.R_alloc | apply Kd.R_drewN | apply Kd.R_drew)); exact HO_5.out) hb)
          have n2_ := Aside0.mk (Kd.R_below (by (with_reducible repeat (first | apply Kd.R_alloc | apply Kd.R_drewN | apply Kd.R_drew)); exact HO111.out) hb)
          have n3_ := Aside0.mk (Kd.R_lower (Kd.R_new' ho16 (Kd.R_lt (by (with_reducible repeat (first | apply Kd.R_alloc | apply Kd.R_drewN | apply Kd.R_drew)); exact HO_4.out))) (below_size (by repeat (first | (with_reducible first | exact HB.out | apply below_alloc | apply pw_below_drewN | apply below_drew1 | refine below_set ?_ GE102.out) | exact HB.out))))
          have n4_ := Aside0.mk (blk_below (g := gb102) (o := .cells #[.int .i64 ((rd_T123 l0 x10_1).f0), .int .u64 ((rd_T123 l0 x10_1).f1)] 123 (0, 0)) (by (with_reducible repeat (first | refine blk_drewN ?_ _ | refine blk_drew ?_ | refine blk_alloc ?_ _)); exact BK102.out) hb)
          have n5_ := Aside0.mk (below_step (by repeat (first | (with_reducible first | exact HB.out | apply below_alloc | apply pw_below_drewN | apply below_drew1 | refine below_set ?_ GE102.out) | exact HB.out)) hb)
          clear HO_4
          clear HO_5
          clear HO111
          clear BK102
          clear HB
          have HO_4 := n0_
          have HO_5 := n1_
          have HO111 := n2_
          have HO105 := n3_
          have BK102 := n4_
          have HB := n5_
          clear n0_ n1_ n2_ n3_ n4_ n5_
          clear hb ho16
          obtain ⟨Ao18, co18, eo18⟩ := Kd.R_slice HO105.out
          (first | subst eo18 | (injection eo18 with f1_ f2_ f3_; have f4_ := f1_.symm; have f5_ := f3_.symm; clear f1_ f2_ f3_; subst f4_; subst f5_))
          refine hK.out _ _ ⟨(blk_cell BK102.out 0).trans rfl, (blk_cell BK102.out 1).trans rfl⟩ (fun hHeld => ?_)
          clear hK K
          refine norm_ (a' := ?_) ?_ ?_
          rotate_left
          ·show Act.put _ (some 17) _ = _
           simp only [Act.put, List.setIfInBounds_toArray, List.set_cons_zero, List.set_cons_succ, i64_w, i32_w]
           rfl
          refine one_ (i := 4) (N := some 18) #[true, true, true, true, true, true, true, true, true, false, false, false] rfl rfl (one_of HT_.out (by kernel_rfl)) (by decide) (fun K hK => ?_)
          refine Kd.R_append_rows_step (Kd.int .i64) (w0 := w) w.heap.size (by rfl) (.tmp 14) (.tmp 17) 24 3 (.int .i64 0) 8 rfl Try.underlying24 info3 rfl (by decide) (by omega) (.slice Ao9 x4_1.length co9) x4_1 y103 _ _ _ (fun k_ => some k_ ≠ (.slice Ao18 y103.length co18 : Value).ownBlock) (fun _ => False) rfl rfl ?aO ?aR (fun _ _ h => h) (fun _ h => h.elim) ?aF ?aB ?aS ?aL ?_
          (case aR => repeat (first | exact (Kd.R_reads' HO105.out).2.2 | (with_reducible refine Kd.C_alloc ?_ _) | (with_reducible refine Kd.C_drewN ?_ _) | (with_reducible refine Kd.C_drew ?_)))
          (case aB => exact (by repeat (first | (with_reducible first | exact HB.out | apply below_alloc | apply pw_below_drewN | apply below_drew1 | refine below_set ?_ GE102.out) | exact HB.out)))
          (case aF => exact (fun k_ hk => Kd.fresh' (Kd.R_lt (by (with_reducible repeat (first | apply Kd.R_alloc | apply Kd.R_drewN | apply Kd.R_drew)); exact HO105.out)) k_ hk))
          (case aO => exact (by (with_reducible repeat (first | apply Kd.R_alloc | apply Kd.R_drewN | apply Kd.R_drew)); exact Kd.R_mono HO_4.out (fun _ hk => hk.2)))
          (case aS => exact (below_size (by repeat (first | (with_reducible first | exact HB.out | apply below_alloc | apply pw_below_drewN | apply below_drew1 | refine below_set ?_ GE102.out) | exact HB.out))))
          (case aL => have := LMc5.out; omega)
          intro v107 w17 ho hb hg hat
          rw [← Ny106.out] at ho
          have n0_ := Aside0.mk (Kd.R_over' (by (with_reducible repeat (first | apply Kd.R_alloc | apply Kd.R_drewN | apply Kd.R_drew)); exact HO_5.out) (Kd.R_typed (by (with_reducible repeat (first | apply Kd.R_alloc | apply Kd.R_drewN | apply Kd.R_drew)); exact HO_4.out)) (by decide) hg)
          have n1_ := Aside0.mk (blk_grown (g := gb102) (o := .cells #[.int .i64 ((rd_T123 l0 x10_1).f0), .int .u64 ((rd_T123 l0 x10_1).f1)] 123 (0, 0)) (by (with_reducible repeat (first | refine blk_drewN ?_ _ | refine blk_drew ?_ | refine blk_alloc ?_ _)); exact BK102.out) hg (Kd.R_ne HO_4.out BK102.out (by decide)))
          have n2_ := Aside0.mk (Kd.R_over' (by (with_reducible repeat (first | apply Kd.R_alloc | apply Kd.R_drewN | apply Kd.R_drew)); exact HO111.out) (Kd.R_typed (by (with_reducible repeat (first | apply Kd.R_alloc | apply Kd.R_drewN | apply Kd.R_drew)); exact HO_4.out)) (by decide) hg)
          have n3_ := Aside0.mk (Kd.R_after (ok := (fun _ => True)) (by (with_reducible repeat (first | apply Kd.R_alloc | apply Kd.R_drewN | apply Kd.R_drew)); exact HO105.out) hg hat)
          have n4_ := Aside0.mk (hb)
          have n5_ := Aside0.mk (ho)
          clear HO_5
          clear BK102
          clear HO111
          clear HO105
          clear HB
          clear HO_4
          have HO_5 := n0_
          have BK102 := n1_
          have HO111 := n2_
          have HO105 := n3_
          have HB := n4_
          have HO108 := n5_
          clear n0_ n1_ n2_ n3_ n4_ n5_
          clear ho hb hg hat
          refine hK.out _ _ ⟨(blk_cell BK102.out 0).trans rfl, (blk_cell BK102.out 1).trans rfl⟩ (fun hHeld => ?_)
          clear hK K
          refine norm_ (a' := ?_) ?_ ?_
          rotate_left
          ·show Act.put _ (some 18) _ = _
           simp only [Act.put, List.setIfInBounds_toArray, List.set_cons_zero, List.set_cons_succ, i64_w, i32_w]
           rfl
          exact norm_ (by simp only [putAll, Act.put, List.setIfInBounds_toArray, List.set_cons_zero, List.set_cons_succ]) (hCont (.slice Ao18 y103.length co18, v107, v110) _ ⟨hHeld, (by (with_reducible repeat (first | apply Kd.R_alloc | apply Kd.R_drewN | apply Kd.R_drew)); exact Kd.R_mono HO105.out (fun _ hk => hk.2)), (by (with_reducible repeat (first | apply Kd.R_alloc | apply Kd.R_drewN | apply Kd.R_drew)); exact HO108.out), (by (with_reducible repeat (first | apply Kd.R_alloc | apply Kd.R_drewN | apply Kd.R_drew)); exact Kd.R_mono HO111.out (fun _ hk => hk.2)), (by (with_reducible repeat (first | apply Kd.R_alloc | apply Kd.R_drewN | apply Kd.R_drew)); exact Kd.R_mono HO_5.out (fun _ hk => hk.2)), (by (with_reducible repeat (first | refine blk_drewN ?_ _ | refine blk_drew ?_ | refine blk_alloc ?_ _)); exact BK102.out), (by repeat (first | (with_reducible first | exact HB.out | apply below_alloc | apply pw_below_drewN | apply below_drew1 | refine below_set ?_ GE102.out) | exact HB.out))⟩)
        rintro ⟨v104, v107, v110⟩ w19 ⟨hS_, h0_, h1_, h2_, h3_, h4_, h5_⟩
        have n0_ : Aside0 (Kd.R (Kd.int .i64) 3 w19 w.heap.size (fun k_ => some k_ ≠ (v107 : Value).ownBlock) v104 y103) := ⟨h0_⟩
        have n1_ : Aside0 (Kd.R (Kd.int .i64) 3 w19 w.heap.size (fun k_ => some k_ ≠ (v104 : Value).ownBlock) v107 y106) := ⟨h1_⟩
        have n2_ : Aside0 (Kd.R (Kd.int .u64) 62 w19 w.heap.size (fun k_ => some k_ ≠ (.slice Ao10 x5_1.length co10 : Value).ownBlock) v110 y109) := ⟨h2_⟩
        have n3_ : Aside0 (Kd.R (Kd.int .u64) 62 w19 w.heap.size (fun k_ => some k_ ≠ (v110 : Value).ownBlock) (.slice Ao10 x5_1.length co10) x5_1) := ⟨h3_⟩
        have n4_ : Aside0 (w19.heap[gb102]? = some (.cells #[.int .i64 ((rd_T123 l0 x10_1).f0), .int .u64 ((rd_T123 l0 x10_1).f1)] 123 (0, 0))) := ⟨h4_⟩
        have n5_ : Aside0 (Below w.heap.size w w19) := ⟨h5_⟩
        clear HO_4
        clear HO_5
        clear BK102
        clear HB
        clear h0_ h1_ h2_ h3_ h4_ h5_
        have HO105 := n0_
        have HO108 := n1_
        have HO111 := n2_
        have HO_5 := n3_
        have BK102 := n4_
        have HB := n5_
        clear n0_ n1_ n2_ n3_ n4_ n5_
        have hHeld : w19.cell? ⟨gb102, 0, none⟩ = some (.int .i64 ((rd_T123 l0 x10_1).f0)) ∧ w19.cell? ⟨gb102, 1, none⟩ = some (.int .u64 ((rd_T123 l0 x10_1).f1)) := hS_
        obtain ⟨Ao21, co21, eo21⟩ := Kd.R_slice HO111.out
        (first | subst eo21 | (injection eo21 with f1_ f2_ f3_; have f4_ := f1_.symm; have f5_ := f3_.symm; clear f1_ f2_ f3_; subst f4_; subst f5_))
        refine norm_ (a' := ?_) ?_ ?_
        rotate_left
        ·simp only [putAll, Act.put, List.setIfInBounds_toArray, List.set_cons_zero, List.set_cons_succ]
         rfl
        refine one_ (i := 9) (N := some 23) #[true, true, true, true, true, true, true, true, true, true, false, false] rfl rfl (one_of HT_.out (by kernel_rfl)) (by decide) (fun K hK => ?_)
        refine Kd.R_append_rows_step (Kd.int .u64) (w0 := w) w.heap.size (by rfl) (.tmp 19) (.tmp 22) 77 62 (.int .u64 0) 8 rfl Try.underlying77 info62 rfl (by decide) (by omega) (.slice Ao10 x5_1.length co10) x5_1 y109 _ _ _ (fun k_ => some k_ ≠ (.slice Ao21 y109.length co21 : Value).ownBlock) (fun _ => False) rfl rfl ?aO ?aR (fun _ _ h => h) (fun _ h => h.elim) ?aF ?aB ?aS ?aL ?_
        (case aR => repeat (first | exact (Kd.R_reads' HO111.out).2.2 | (with_reducible refine Kd.C_alloc ?_ _) | (with_reducible refine Kd.C_drewN ?_ _) | (with_reducible refine Kd.C_drew ?_)))
        (case aB => exact (by repeat (first | (with_reducible first | exact HB.out | apply below_alloc | apply pw_below_drewN | apply below_drew1 | refine below_set ?_ GE102.out) | exact HB.out)))
        (case aF => exact (fun k_ hk => Kd.fresh' (Kd.R_lt (by (with_reducible repeat (first | apply Kd.R_alloc | apply Kd.R_drewN | apply Kd.R_drew)); exact HO111.out)) k_ hk))
        (case aO => exact (by (with_reducible repeat (first | apply Kd.R_alloc | apply Kd.R_drewN | apply Kd.R_drew)); exact HO_5.out))
        (case aS => exact (below_size (by repeat (first | (with_reducible first | exact HB.out | apply below_alloc | apply pw_below_drewN | apply below_drew1 | refine below_set ?_ GE102.out) | exact HB.out))))
        (case aL => have := LMc6.out; omega)
        intro v113 w20 ho hb hg hat
        rw [← Ny112.out] at ho
        have n0_ := Aside0.mk (blk_grown (g := gb102) (o := .cells #[.int .i64 ((rd_T123 l0 x10_1).f0), .int .u64 ((rd_T123 l0 x10_1).f1)] 123 (0, 0)) (by (with_reducible repeat (first | refine blk_drewN ?_ _ | refine blk_drew ?_ | refine blk_alloc ?_ _)); exact BK102.out) hg (Kd.R_ne HO_5.out BK102.out (by decide)))
        have n1_ := Aside0.mk (Kd.R_over' (by (with_reducible repeat (first | apply Kd.R_alloc | apply Kd.R_drewN | apply Kd.R_drew)); exact HO105.out) (Kd.R_typed (by (with_reducible repeat (first | apply Kd.R_alloc | apply Kd.R_drewN | apply Kd.R_drew)); exact HO_5.out)) (by decide) hg)
        have n2_ := Aside0.mk (Kd.R_over' (by (with_reducible repeat (first | apply Kd.R_alloc | apply Kd.R_drewN | apply Kd.R_drew)); exact HO108.out) (Kd.R_typed (by (with_reducible repeat (first | apply Kd.R_alloc | apply Kd.R_drewN | apply Kd.R_drew)); exact HO_5.out)) (by decide) hg)
        have n3_ := Aside0.mk (Kd.R_after (ok := (fun _ => True)) (by (with_reducible repeat (first | apply Kd.R_alloc | apply Kd.R_drewN | apply Kd.R_drew)); exact Kd.R_mono HO111.out (fun _ hk => ⟨trivial, hk⟩)) hg hat)
        have n4_ := Aside0.mk (hb)
        have n5_ := Aside0.mk (ho)
        clear BK102
        clear HO105
        clear HO108
        clear HO111
        clear HB
        clear HO_5
        have BK102 := n0_
        have HO105 := n1_
        have HO108 := n2_
        have HO111 := n3_
        have HB := n4_
        have HO114 := n5_
        clear n0_ n1_ n2_ n3_ n4_ n5_
        clear ho hb hg hat
        refine hK.out _ _ ⟨(blk_cell BK102.out 0).trans rfl, (blk_cell BK102.out 1).trans rfl⟩ (fun hHeld => ?_)
        clear hK K
        refine norm_ (a' := ?_) ?_ ?_
        rotate_left
        ·show Act.put _ (some 23) _ = _
         simp only [Act.put, List.setIfInBounds_toArray, List.set_cons_zero, List.set_cons_succ, i64_w, i32_w]
         rfl
        refine pure_ (i := 10) (N := some 4) (v := ?_) (a' := ?_) #[true, true, true, true, true, true, true, true, true, true, true, false] rfl rfl (any_of HT_.out (by kernel_rfl)) (fun _ _ _ h => h) (Or.inl ⟨by rfl, ?_⟩) ?_ ?_
        rotate_left
        ·intro w'
         go_simp
         with_reducible rfl
        rotate_left
        ·simp only [Act.put, List.setIfInBounds_toArray, List.set_cons_zero, List.set_cons_succ, i64_w, i32_w]
         rfl
        refine pure_ (i := 11) (N := some 5) (v := ?_) (a' := ?_) #[true, true, true, true, true, true, true, true, true, true, true, true] rfl rfl (any_of HT_.out (by kernel_rfl)) (fun _ _ _ h => h) (Or.inl ⟨by rfl, ?_⟩) ?_ ?_
        rotate_left
        ·intro w'
         go_simp
         with_reducible rfl
        rotate_left
        ·simp only [Act.put, List.setIfInBounds_toArray, List.set_cons_zero, List.set_cons_succ, i64_w, i32_w]
         rfl
        refine done_ (done_of HT_.out (by kernel_rfl)) ?_
        try go_wp2
        go_roundg k1
        case measure => have := HK1.out; omega
        case rel => exact ⟨(y106), (y112), (wrap64 (x10_1 + 1)), (by first | rfl | (simp; done) | (simp [*]; done)), H', ⟨by have := HK1.out; omega⟩, ⟨by (with_reducible repeat (first | apply Kd.R_alloc | apply Kd.R_drewN | apply Kd.R_drew)); exact Kd.R_mono HO108.out (fun _ hk => trivial)⟩, ⟨by (with_reducible repeat (first | apply Kd.R_alloc | apply Kd.R_drewN | apply Kd.R_drew)); exact Kd.R_mono HO114.out (fun _ hk => trivial)⟩, ⟨by repeat (first | (with_reducible first | exact HB.out | apply below_alloc | apply pw_below_drewN | apply below_drew1 | refine below_set ?_ GE102.out) | exact HB.out)⟩⟩
       ·rw [if_neg c6] at H
        exact absurd H (by simp)
      ·rw [if_neg c5] at H
       exact absurd H (by simp)
     ·rw [if_neg c4] at H
      exact absurd H (by simp)
    ·rw [if_neg c3] at H
     exact absurd H (by simp)
   ·rw [if_neg c2] at H
    have c2b0 : decide (x10_1 < (l0.length : Int)) = false := decide_eq_false c2
    clear c2
    simp only [Option.some.injEq, Prod.mk.injEq] at H
    obtain ⟨rfl, rfl⟩ := H
    go_wp2
    go_ret2
    exact ⟨_, _, by first | rfl | (simp [errW_none, errW_some] <;> rfl) | (simp [*, errW_none, errW_some] <;> rfl), by (with_reducible repeat (first | apply Kd.R_alloc | apply Kd.R_drewN | apply Kd.R_drew)); exact HO_4.out, by (with_reducible repeat (first | apply Kd.R_alloc | apply Kd.R_drewN | apply Kd.R_drew)); exact HO_5.out, by repeat (first | (with_reducible first | exact HB.out | apply below_alloc | apply pw_below_drewN | apply below_drew1) | exact HB.out)⟩
end Go.Proofs.Ytacgeafjilipdaa.P
namespace Go.Proofs.Ytacgeafjilipdaa.P
open Go.RowKit Go.Shelf Go.Proofs.YtacgeafjilipdaaW.PrintWords Go.Proofs.YtacgeafjilipdaaW.PrintLast Go.Proofs.YtacgeafjilipdaaW.PrintMore
set_option linter.unusedVariables false
set_option linter.unusedSimpArgs false
def wantF (h : Fh) (p n : List Pu) : Int := if rises (-1048576) (p.map (·.f0)) = true ∧ rises (-1048576) (n.map (·.f0)) = true then (if headF h ≠ 0 then headF h else if (p.map (·.f1) ++ n.map (·.f1)).any (fun v => !rightF v) = true then 22 else 0) else 11
theorem sideF_any {l : List Pu} (hr : rises (-1048576) (l.map (·.f0)) = true) (hl : l.length ≤ 1024) : sideF (spansOf (l.map (·.f0))) (l.map (·.f1)) = if (l.map (·.f1)).any (fun v => !rightF v) = true then ([], 22) else (l, 0) := by
  by_cases c : (l.map (·.f1)).any (fun v => !rightF v) = true
  · rw [if_pos c]
    have hs := spInv_take _ hr
    have h1 := hs.len
    rw [List.length_map] at h1
    have hk := spansOf_check hr (by rw [List.length_map]; omega) (by omega)
    have hcn := hs.cnt
    rw [List.length_map] at hcn
    unfold sideF
    rw [if_pos hk, if_pos (by rw [List.length_map]; omega), if_pos c]
  · rw [if_neg c]
    rw [Bool.not_eq_true, List.any_eq_false] at c
    exact sideF_laid hr hl (fun p hp => by have := c p.f1 (List.mem_map_of_mem hp); simpa using this)
theorem wantF_make {h : Fh} {p n : List Pu} (lp : p.length ≤ 300) (ln : n.length ≤ 300) : (makeF h p n).2 = wantF h p n ∧ (wantF h p n ≠ 0 → (makeF h p n).1 = emptyF) ∧
    (wantF h p n = 0 → makeF h p n = (madeF h p n, 0) ∧ canonB true (madeF h p n).f5 = true ∧ canonB true (madeF h p n).f6 = true ∧ spCheck (madeF h p n).f5 = 0 ∧ spCheck (madeF h p n).f6 = 0 ∧ plN 0 (madeF h p n).f5 = p.map (·.f0) ∧ plN 0 (madeF h p n).f6 = n.map (·.f0) ∧ (madeF h p n).f7 = p.map (·.f1) ∧ (madeF h p n).f8 = n.map (·.f1) ∧ (madeF h p n).f5.length ≤ 300 ∧ (madeF h p n).f6.length ≤ 300) := by
  unfold wantF makeF
  by_cases r1 : rises (-1048576) (p.map (·.f0)) = true
  rotate_left
  · have e := unzipU_no (l := p) (by simpa using r1)
    rw [if_pos (by rw [e]; omega), if_neg (fun h => r1 h.1), e]
    exact ⟨rfl, fun _ => rfl, fun h => by cases h⟩
  have e1 := unzipU_ok r1 (by omega)
  by_cases r2 : rises (-1048576) (n.map (·.f0)) = true
  rotate_left
  · have e := unzipU_no (l := n) (by simpa using r2)
    rw [if_neg (by rw [e1]; simp), if_pos (by rw [e]; omega), if_neg (fun h => r2 h.2), e]
    exact ⟨rfl, fun _ => rfl, fun h => by cases h⟩
  have e2 := unzipU_ok r2 (by omega)
  rw [if_neg (by rw [e1]; simp), if_neg (by rw [e2]; simp), if_pos (⟨r1, r2⟩ : _ ∧ _)]
  have hM : madeF h p n = ⟨h.f0, h.f1, h.f2, h.f3, h.f4, spansOf (p.map (·.f0)), spansOf (n.map (·.f0)), p.map (·.f1), n.map (·.f1)⟩ := by unfold madeF; rw [e1, e2]
  have hC : checkF (madeF h p n) = if headF h ≠ 0 then headF h else if (p.map (·.f1) ++ n.map (·.f1)).any (fun v => !rightF v) = true then 22 else 0 := by
    rw [checkF_eq, hM]
    rw [show headF (⟨h.f0, h.f1, h.f2, h.f3, h.f4, spansOf (p.map (·.f0)), spansOf (n.map (·.f0)), p.map (·.f1), n.map (·.f1)⟩ : Fh) = headF h from rfl]
    by_cases c3 : headF h = 0
    rotate_left
    · rw [if_pos c3, if_pos c3]
    simp only [c3, ne_eq, not_true_eq_false, if_false]
    simp only [sideF_any r1 (by omega), sideF_any r2 (by omega), List.any_append]
    cases (p.map (·.f1)).any (fun v => !rightF v) with
    | true => simp
    | false =>
      cases (n.map (·.f1)).any (fun v => !rightF v) with
      | true => simp
      | false => simp
  rw [← hC]
  have i1 := spInv_take _ r1
  have i2 := spInv_take _ r2
  have j1 := i1.len; have j2 := i2.len
  rw [List.length_map] at j1 j2
  by_cases c4 : checkF (madeF h p n) = 0
  rotate_left
  · rw [if_pos c4]; exact ⟨rfl, fun _ => rfl, fun e => absurd e c4⟩
  rw [if_neg (by simp [c4])]
  refine ⟨c4.symm, fun e => absurd c4 e, fun _ => ⟨rfl, ?_, ?_, ?_, ?_, ?_, ?_, ?_, ?_, ?_, ?_⟩⟩
  all_goals rw [hM]
  · exact i1.can
  · exact i2.can
  · exact spansOf_check r1 (by rw [List.length_map]; omega) (by omega)
  · exact spansOf_check r2 (by rw [List.length_map]; omega) (by omega)
  · exact i1.pl
  · exact i2.pl
  · simp only; omega
  · simp only; omega
theorem bareF_check (h : Fh) : checkF ⟨h.f0, h.f1, h.f2, h.f3, h.f4, [], [], [], []⟩ = headF h := by
  rw [checkF_eq]
  rw [show headF (⟨h.f0, h.f1, h.f2, h.f3, h.f4, [], [], [], []⟩ : Fh) = headF h from rfl]
  rw [show (sideF [] []).2 = 0 from by decide]
  by_cases c : headF h = 0 <;> simp [c]
theorem apart10_loop (l : List Pu) (hm : l.length ≤ 300) : ∀ (d k i : Nat), l.length - i = d → d < k → i ≤ l.length →
    tidepolelaw10_apart.l0 k ((l.take i).map (·.f0)) ((l.take i).map (·.f1)) l (l.length : Int) (i : Int) = some (l.map (·.f0), l.map (·.f1)) := by
  intro d
  induction d with
  | zero =>
    intro k i hd hk hi
    obtain ⟨k, rfl⟩ : ∃ m, k = m + 1 := ⟨k - 1, by omega⟩
    rw [tidepolelaw10_apart.l0, if_neg (by omega), List.take_of_length_le (by omega)]
  | succ d ih =>
    intro k i hd hk hi
    obtain ⟨k, rfl⟩ : ∃ m, k = m + 1 := ⟨k - 1, by omega⟩
    have hlt : i < l.length := by omega
    have hl1 : ((l.take i).map (·.f0)).length = i := by simp; omega
    have hl2 : ((l.take i).map (·.f1)).length = i := by simp; omega
    rw [tidepolelaw10_apart.l0, if_pos (by omega), if_pos (by omega), if_pos (by omega)]
    simp only [Option.bind_some, List.length_cons, List.length_nil]
    rw [hl1, hl2, rdPu_at hlt, if_pos (by omega), if_pos (by omega), wrap_succ (by omega), ← ih k (i + 1) (by omega) (by omega) (by omega), take_at hlt]
    simp only [List.map_append, List.map_cons, List.map_nil]
theorem apart10_c (l : List Pu) (hm : l.length ≤ 300) (w : World) (v : Value) (hv : SI kPu w v l) : Calls Try.prog 116 #[v] w fun e w' =>
    ∃ v0 v1 : Value, e = .returned (.tuple #[v0, v1]) ∧ SI (Kd.int .i64) w' v0 (l.map (·.f0)) ∧ SI (Kd.int .u64) w' v1 (l.map (·.f1)) ∧ Below w.heap.size w w' := by
  obtain ⟨A, c, rfl, hc, hr⟩ := hv
  refine (tidepolelaw10_apart.calls 1000 A c l _ _ w hr hc (apart10_loop l hm l.length 1000 0 (by omega) (by omega) (by omega))).mono ?_
  rintro e w1 ⟨v0, v1, rfl, h0, h1, hb⟩
  exact ⟨v0, v1, rfl, .of_R h0, .of_R h1, hb⟩
theorem refRising_c (l : List Int) (hl : l.length ≤ 4096) (w : World) (v : Value) (hv : SI (Kd.int .i64) w v l) : Calls Try.prog 32 #[v] w fun e w' => e = .returned (.bool (rises (-1048576) l)) ∧ Below w.heap.size w w' := by
  obtain ⟨A, c, rfl, hc, hr⟩ := hv
  exact (tidepoleref06_Rising.calls (l.length + 1) A c l _ w hr hc (refRising_eq l (by omega) _ (by omega))).mono fun e w1 h => ⟨h.1, h.2.below⟩
set_option maxRecDepth 100000 in
theorem numbers10_c (s z zc ct sm : Int) (a5 a6 a7 a8 b5 b6 b7 b8 : Option Addr) (m5 m6 m7 m8 c5 c6 c7 c8 n5 n6 n7 n8 d5 d6 d7 d8 : Nat) (w : World) :
    Calls Try.prog 117 #[.agg #[.int .i64 s, .int .u64 z, .int .u64 zc, .int .u64 ct, .int .u64 sm, .slice a5 m5 c5, .slice a6 m6 c6, .slice a7 m7 c7, .slice a8 m8 c8], .agg #[.int .i64 s, .int .u64 z, .int .u64 zc, .int .u64 ct, .int .u64 sm, .slice b5 n5 d5, .slice b6 n6 d6, .slice b7 n7 d7, .slice b8 n8 d8]] w fun e w' => e = .returned (.bool true) ∧ Below w.heap.size w w' := by
  have hu := Try.underlying79
  go_enter Try.func117, Try.ntmps117
  go_wp2
  go_ret
  exact ⟨rfl, below_alloc (below_alloc (Below.refl _ _) _) _⟩
end Go.Proofs.Ytacgeafjilipdaa.P
namespace Go.Proofs.Ytacgeafjilipdaa.P
open Go.RowKit Go.Shelf Go.Proofs.YtacgeafjilipdaaW.PrintWords Go.Proofs.YtacgeafjilipdaaW.PrintLast Go.Proofs.YtacgeafjilipdaaW.PrintMore
set_option linter.unusedVariables false
set_option linter.unusedSimpArgs false
instance (l : List Pu) : Decidable (wfPus l) := by unfold wfPus; exact inferInstance
theorem madeG_wf {h : Fh} {p n : List Pu} (hw : wfG h) (hp : wfRowU p) (hn : wfRowU n) : wfF (madeF h p n) := by
  have a := unzipResU_wf hp
  have b := unzipResU_wf hn
  exact ⟨hw.1, hw.2.1, hw.2.2.1, hw.2.2.2.1, hw.2.2.2.2.1, a.1, b.1, a.2.1, b.2.1, a.2.2, b.2.2⟩
theorem GR.bare (W : World) (a : Fh) : GR W (.agg #[.int .i64 a.f0, .int .u64 a.f1, .int .u64 a.f2, .int .u64 a.f3, .int .u64 a.f4, .slice none 0 0, .slice none 0 0, .slice none 0 0, .slice none 0 0]) ⟨a.f0, a.f1, a.f2, a.f3, a.f4, [], [], [], []⟩ := ⟨_, _, _, _, rfl, SI.nil _ _, SI.nil _ _, SI.nil _ _, SI.nil _ _⟩
def wantJ (r : Int) (l : List Int) : Int := if r ≠ 0 then r else if l.any (fun v => !rightF v) = true then 22 else 0
theorem wantJ_step (r : Int) (l : List Int) (x : Int) : wantJ r (l ++ [x]) = if wantJ r l = 0 ∧ rightF x = false then 22 else wantJ r l := by
  unfold wantJ
  by_cases c : r = 0
  · subst c
    simp only [ne_eq, not_true_eq_false, if_false, List.any_append, List.any_cons, List.any_nil, Bool.or_false]
    cases l.any (fun v => !rightF v) <;> cases rightF x <;> simp
  · simp only [ne_eq, c, not_false_eq_true, if_true, false_and, if_false]
set_option maxHeartbeats 64000000 in
set_option maxRecDepth 100000 in
theorem fhistMakes_no (a : Fh) (p n : List Pu) (hw : wfG a) (hp : wfPus p) (hn : wfPus n) (n5 : a.f5.length < 8796093022208) (n6 : a.f6.length < 8796093022208) (lp : p.length ≤ 300) (ln : n.length ≤ 300) (hr : wantF a p n ≠ 0) (w : World) (u : Value) (ap an : Option Addr) (cp cn : Nat) (hua : GI w u a) (hvp : SI kPu w (.slice ap p.length cp) p) (hvn : SI kPu w (.slice an n.length cn) n) : Calls Try.prog 26 #[u, .slice ap p.length cp, .slice an n.length cn] w fun e w' => e = .returned (.bool true) ∧ Below w.heap.size w w' := by
  have hud := Try.underlying79
  have hur := Try.underlying84
  have ap_ := apart10_c p lp
  have an_ := apart10_c n ln
  have cr := ref10_c a (by omega) (by omega)
  have cq := refCheckF_c ⟨a.f0, a.f1, a.f2, a.f3, a.f4, [], [], [], []⟩ ⟨hw.1, hw.2.1, hw.2.2.1, hw.2.2.2.1, hw.2.2.2.2.1, fun x hx => (by cases hx), fun x hx => (by cases hx), fun x hx => (by cases hx), fun x hx => (by cases hx), by simp, by simp⟩
  rw [bareF_check] at cq
  have rp_ := refRising_c (p.map (·.f0)) (by simp; omega)
  have rn_ := refRising_c (n.map (·.f0)) (by simp; omega)
  have g1 : decide ((p.length : Int) > 300) = false := decide_eq_false (by omega)
  have g2 : decide ((n.length : Int) > 300) = false := decide_eq_false (by omega)
  have g3 : ¬ (300 : Int) < (p.length : Int) := by omega
  have g4 : ¬ (300 : Int) < (n.length : Int) := by omega
  have LN := Aside0.mk (And.intro (show (p.map (·.f1)).length ≤ 300 by rw [List.length_map]; exact lp) (show (n.map (·.f1)).length ≤ 300 by rw [List.length_map]; exact ln))
  have AP_ := Aside0.mk ap_
  have AN_ := Aside0.mk an_
  have CR := Aside0.mk cr
  have CQ := Aside0.mk cq
  clear ap_ an_ cr cq
  have mk := wantF_make (h := a) (p := p) (n := n) lp ln
  have cm := fmake_n a p n (madeG_wf hw ⟨hp, by omega⟩ ⟨hn, by omega⟩) ⟨hp, by omega⟩ ⟨hn, by omega⟩
  rw [mk.1, mk.2.1 hr] at cm
  have hwn : wantF a p n = if rises (-1048576) (p.map (·.f0)) = true ∧ rises (-1048576) (n.map (·.f0)) = true then wantJ (headF a) (p.map (·.f1) ++ n.map (·.f1)) else 11 := rfl
  generalize wantF a p n = r at *
  generalize headF a = r0 at *
  generalize p.map (·.f0) = lp0 at *
  generalize n.map (·.f0) = ln0 at *
  generalize p.map (·.f1) = lp1 at *
  generalize n.map (·.f1) = ln1 at *
  generalize rises (-1048576) lp0 = b1 at *
  generalize rises (-1048576) ln0 = b2 at *
  have d : (r != 0) = true := bne_iff_ne.2 hr
  have CM := Aside0.mk cm
  have RP_ := Aside0.mk rp_
  have RN_ := Aside0.mk rn_
  have HW := Aside0.mk hwn
  clear cm mk hr hwn rp_ rn_ hw hp hn lp ln n5 n6
  obtain ⟨A5a, c5a, A6a, c6a, A7a, c7a, A8a, c8a, e, k5a, k6a, k7a, k8a⟩ := hua.open_
  subst e
  have B := Aside0.mk (below_alloc (Below.refl w.heap.size w) (.cells #[.int .i64 a.f0, .int .u64 a.f1, .int .u64 a.f2, .int .u64 a.f3, .int .u64 a.f4, .slice A5a a.f5.length c5a, .slice A6a a.f6.length c6a, .slice A7a a.f7.length c7a, .slice A8a a.f8.length c8a] 79))
  have X := Aside0.mk (Blk.new w #[.int .i64 a.f0, .int .u64 a.f1, .int .u64 a.f2, .int .u64 a.f3, .int .u64 a.f4, .slice A5a a.f5.length c5a, .slice A6a a.f6.length c6a, .slice A7a a.f7.length c7a, .slice A8a a.f8.length c8a] 79)
  have hx := fun i => X.out.cell i
  have HA := Aside0.mk (hua.below B.out)
  have K5a := Aside0.mk (k5a.below B.out)
  have K6a := Aside0.mk (k6a.below B.out)
  have K7a := Aside0.mk (k7a.below B.out)
  have K8a := Aside0.mk (k8a.below B.out)
  have VP := Aside0.mk (hvp.below B.out)
  have VN := Aside0.mk (hvn.below B.out)
  clear hua k5a k6a k7a k8a hvp hvn
  go_enter Try.func26, Try.ntmps26
  go_wp2_with (first | (go_at_call 115; (with_reducible refine (CM.out _ _ _ _ HA.out VP.out VN.out).mono ?_); rintro e W1 ⟨mv, rfl, hm, hb⟩; replace B := Aside0.mk (below_then B.out B.out.size hb); replace HA := Aside0.mk (HA.out.below hb); replace VP := Aside0.mk (VP.out.below hb); replace VN := Aside0.mk (VN.out.below hb); replace X := Aside0.mk (X.out.below hb); replace hx := fun i => X.out.cell i; obtain ⟨mA5, mc5, mA6, mc6, mA7, mc7, mA8, mc8, ec⟩ := hm.empty_; clear hm; subst ec; have hxa := fun i => (X.out.alloc (.cells #[.int .i64 0, .int .u64 0, .int .u64 0, .int .u64 0, .int .u64 0, .slice mA5 0 mc5, .slice mA6 0 mc6, .slice mA7 0 mc7, .slice mA8 0 mc8] 79)).cell i; clear hb))
  (try clear hxa)
  have hal := below_alloc (Below.refl W1.heap.size W1) (.cells #[.int .i64 0, .int .u64 0, .int .u64 0, .int .u64 0, .int .u64 0, .slice mA5 0 mc5, .slice mA6 0 mc6, .slice mA7 0 mc7, .slice mA8 0 mc8] 79)
  replace B := Aside0.mk (below_then B.out B.out.size hal)
  replace HA := Aside0.mk (HA.out.below hal)
  replace VP := Aside0.mk (VP.out.below hal)
  replace VN := Aside0.mk (VN.out.below hal)
  replace X := Aside0.mk (X.out.alloc (.cells #[.int .i64 0, .int .u64 0, .int .u64 0, .int .u64 0, .int .u64 0, .slice mA5 0 mc5, .slice mA6 0 mc6, .slice mA7 0 mc7, .slice mA8 0 mc8] 79)); replace hx := fun i => X.out.cell i
  have T7 := Aside0.mk (Blk.new W1 #[.int .i64 0, .int .u64 0, .int .u64 0, .int .u64 0, .int .u64 0, .slice mA5 0 mc5, .slice mA6 0 mc6, .slice mA7 0 mc7, .slice mA8 0 mc8] 79); have ht7 := fun i => T7.out.cell i; clear hal
  go_wp2_with (first | (go_at_call 116; (with_reducible refine (AP_.out _ _ VP.out).mono ?_); rintro e W2 ⟨v0, v1, rfl, h0, h1, hb⟩; replace B := Aside0.mk (below_then B.out B.out.size hb); replace HA := Aside0.mk (HA.out.below hb); replace VP := Aside0.mk (VP.out.below hb); replace VN := Aside0.mk (VN.out.below hb); replace X := Aside0.mk (X.out.below hb); replace hx := fun i => X.out.cell i; replace T7 := Aside0.mk (T7.out.below hb); replace ht7 := fun i => T7.out.cell i; have P0 := Aside0.mk h0; have P1 := Aside0.mk h1; have hl' := P1.out; obtain ⟨p1_A, p1_c, eL, -, -⟩ := hl'; subst eL; clear h0 h1 hb) | (go_at_call 116; (with_reducible refine (AN_.out _ _ VN.out).mono ?_); rintro e W3 ⟨v2, v3, rfl, h0, h1, hb⟩; replace B := Aside0.mk (below_then B.out B.out.size hb); replace HA := Aside0.mk (HA.out.below hb); replace VP := Aside0.mk (VP.out.below hb); replace VN := Aside0.mk (VN.out.below hb); replace P0 := Aside0.mk (P0.out.below hb); replace P1 := Aside0.mk (P1.out.below hb); replace X := Aside0.mk (X.out.below hb); replace hx := fun i => X.out.cell i; replace T7 := Aside0.mk (T7.out.below hb); replace ht7 := fun i => T7.out.cell i; have N0 := Aside0.mk h0; have N1 := Aside0.mk h1; have hl' := N1.out; obtain ⟨n1_A, n1_c, eL, -, -⟩ := hl'; subst eL; clear h0 h1 hb) | (go_at_call 97; (with_reducible refine (CR.out _ _ HA.out).mono ?_); rintro e W4 ⟨rv, rfl, hr, hb⟩; replace B := Aside0.mk (below_then B.out B.out.size hb); replace HA := Aside0.mk (HA.out.below hb); replace VP := Aside0.mk (VP.out.below hb); replace VN := Aside0.mk (VN.out.below hb); replace P0 := Aside0.mk (P0.out.below hb); replace P1 := Aside0.mk (P1.out.below hb); replace N0 := Aside0.mk (N0.out.below hb); replace N1 := Aside0.mk (N1.out.below hb); replace X := Aside0.mk (X.out.below hb); replace hx := fun i => X.out.cell i; replace T7 := Aside0.mk (T7.out.below hb); replace ht7 := fun i => T7.out.cell i; obtain ⟨rA5, rc5, rA6, rc6, rA7, rc7, rA8, rc8, er, -⟩ := hr.open_; subst er; clear hr; have hxa := fun i => (X.out.alloc (.cells #[.int .i64 a.f0, .int .u64 a.f1, .int .u64 a.f2, .int .u64 a.f3, .int .u64 a.f4, .slice none 0 0, .slice none 0 0, .slice none 0 0, .slice none 0 0] 84)).cell i; have ht7a := fun i => (T7.out.alloc (.cells #[.int .i64 a.f0, .int .u64 a.f1, .int .u64 a.f2, .int .u64 a.f3, .int .u64 a.f4, .slice none 0 0, .slice none 0 0, .slice none 0 0, .slice none 0 0] 84)).cell i; clear hb) | (go_at_call 63; (with_reducible refine (CQ.out _ _ (GR.bare _ a)).mono ?_); rintro e W5 ⟨rfl, hb⟩; have hb := below_then (below_alloc (Below.refl W4.heap.size W4) (.cells #[.int .i64 a.f0, .int .u64 a.f1, .int .u64 a.f2, .int .u64 a.f3, .int .u64 a.f4, .slice none 0 0, .slice none 0 0, .slice none 0 0, .slice none 0 0] 84)) ((below_alloc (Below.refl W4.heap.size W4) (.cells #[.int .i64 a.f0, .int .u64 a.f1, .int .u64 a.f2, .int .u64 a.f3, .int .u64 a.f4, .slice none 0 0, .slice none 0 0, .slice none 0 0, .slice none 0 0] 84))).size hb; replace B := Aside0.mk (below_then B.out B.out.size hb); replace HA := Aside0.mk (HA.out.below hb); replace P0 := Aside0.mk (P0.out.below hb); replace P1 := Aside0.mk (P1.out.below hb); replace N0 := Aside0.mk (N0.out.below hb); replace N1 := Aside0.mk (N1.out.below hb); replace X := Aside0.mk (X.out.below hb); replace hx := fun i => X.out.cell i; replace T7 := Aside0.mk (T7.out.below hb); replace ht7 := fun i => T7.out.cell i; clear hxa ht7a; clear  hb) | ((with_reducible refine gate_builtin (b := .append) (xs := #[.tmp 51, .tmp 52]) rfl ?_); at_builtin; refine Kd.R_append_rows (Kd.int .u64) (w0 := W5) W5.heap.size rfl (.tmp 51) (.tmp 52) 77 62 (.int .u64 0) 8 rfl Try.underlying77 info62 rfl (by decide) (by omega) (.slice (some ⟨W5.heap.size, 0, none⟩) 0 0) [] lp1 _ _ _ (fun _ => True) (fun _ => False) rfl rfl ?aO ?aR (fun _ _ h => h) (fun _ h => h.elim) (fun _ _ => trivial) ?aB ?aS ?aL ?_; (case aO => exact ⟨fun _ _ => trivial, [], ⟨rfl, .inr ⟨W5.heap.size, 0, #[], rfl, Nat.le_refl _, (show (W5.alloc (.cells #[] 62)).heap[W5.heap.size]? = _ from by simpa using blk_new W5 (.cells #[] 62)), Nat.le_refl _, by unfold maxLen; omega, rfl, rfl⟩⟩, Reps.none _ _⟩); (case aR => (obtain ⟨_, _, e', _, hr'⟩ := P1.out.below (below_alloc (Below.refl _ _) _); cases e'; exact hr')); (case aB => exact below_alloc (Below.refl _ _) _); (case aS => simp); (case aL => (have := LN.out; simp; omega)); intro v1 w1 ho hb hg hat; rw [List.nil_append] at ho; have HO1 := Aside0.mk ho; have HB1 := Aside0.mk hb; clear ho hb hg hat) | ((with_reducible refine gate_builtin (b := .append) (xs := #[.tmp 53, .tmp 54]) rfl ?_); at_builtin; refine Kd.R_append_rows (Kd.int .u64) (w0 := W5) W5.heap.size rfl (.tmp 53) (.tmp 54) 77 62 (.int .u64 0) 8 rfl Try.underlying77 info62 rfl (by decide) (by omega) _ lp1 ln1 _ _ _ (fun _ => True) (fun _ => False) rfl rfl ?aO ?aR (fun _ _ h => h) (fun _ h => h.elim) (fun _ _ => trivial) ?aB ?aS ?aL ?_; (case aO => exact HO1.out); (case aR => (obtain ⟨_, _, e', _, hr'⟩ := N1.out.below HB1.out; cases e'; exact hr')); (case aB => exact HB1.out); (case aS => exact HB1.out.size); (case aL => (have := LN.out; omega)); intro v2 w2 ho hb hg hat; obtain ⟨l, el⟩ : ∃ l_, l_ = lp1 ++ ln1 := ⟨_, rfl⟩; rw [← el] at ho; have EL := Aside0.mk el; clear el; have L := Aside0.mk (SI.of_R ho); have hl' := L.out; obtain ⟨LA, Lc, eL, hLc, hLr⟩ := hl'; subst eL; have HR := Aside0.mk hLr; clear hLc hLr; replace B := Aside0.mk (below_then B.out B.out.size hb); replace HA := Aside0.mk (HA.out.below hb); replace P0 := Aside0.mk (P0.out.below hb); replace P1 := Aside0.mk (P1.out.below hb); replace N0 := Aside0.mk (N0.out.below hb); replace N1 := Aside0.mk (N1.out.below hb); replace X := Aside0.mk (X.out.below hb); replace hx := fun i => X.out.cell i; replace T7 := Aside0.mk (T7.out.below hb); replace ht7 := fun i => T7.out.cell i; clear ho hb hg hat HO1 HB1))
  have NL := Aside0.mk (show l.length ≤ 600 by have := LN.out; rw [EL.out, List.length_append]; omega)
  rw [← EL.out] at HW
  clear LN EL
  go_loopg [14, 57] l.length (fun gg v14 v57 wr => ∃ j : Nat, v57 = .int .i64 (j : Int) ∧ v14 = .int .i64 (wantJ r0 (l.take j)) ∧ Aside0 (j + gg = l.length) ∧ Aside0 (Below w2.heap.size w2 wr))
  case atStart => exact ⟨0, rfl, (by simp [wantJ]), ⟨by simp⟩, ⟨Below.refl _ _⟩⟩
  case round =>
    obtain ⟨j, rfl, rfl, HJ, HB⟩ := hrel
    by_cases hlt : j < l.length
    · obtain ⟨ko, rfl⟩ : ∃ ko, gk = ko + 1 := ⟨gk - 1, by have := HJ.out; omega⟩
      have hHR := Kd.C_below HR.out HB.out
      obtain ⟨ad, ea, hcell⟩ := Kd.at_int hHR (j : Int) (by omega) (by omega)
      subst ea
      rw [Int.toNat_natCast, rd_at hlt] at hcell
      have htk : l.take (j + 1) = l.take j ++ [l[j]] := List.take_succ_eq_append_getElem hlt
      have hs := wantJ_step r0 (l.take j) l[j]
      rw [← htk] at hs
      have HSX := Aside0.mk hs
      have cright := fun w => refRight_c l[j] w
      generalize l[j] = x at *
      have p1 : (0 : Int) ≤ (j : Int) := by omega
      have p2 : (j : Int) < (l.length : Int) := by omega
      have p3 : decide ((j : Int) < (l.length : Int)) = true := decide_eq_true p2
      have p4 : wrap64 ((j : Int) + 1) = ((j + 1 : Nat) : Int) := by have := NL.out; rw [wrap_succ (by omega)]
      have CRI := Aside0.mk cright
      clear hs htk hHR cright
      by_cases hq : wantJ r0 (l.take j) = 0
      · rw [hq]
        cases hrx : rightF x with
        | true =>
          have hs2 : wantJ r0 (l.take (j + 1)) = 0 := by rw [HSX.out, if_neg (by simp [hrx]), hq]
          rw [hrx] at CRI
          have HSY := Aside0.mk hs2
          clear hs2 HSX hrx hq
          go_wp2_with (first | (go_at_call 99; (with_reducible refine (CRI.out _).mono ?_); rintro e WR ⟨rfl, hb⟩; have HB2 := Aside0.mk (below_then HB.out HB.out.size hb); clear hb))
          go_roundg ko
          case measure => have := HJ.out; omega
          case rel => exact ⟨j + 1, by go_num, by rw [HSY.out], ⟨by have := HJ.out; omega⟩, HB2⟩
        | false =>
          have hs2 : wantJ r0 (l.take (j + 1)) = 22 := by rw [HSX.out, if_pos (by simp [hrx, hq])]
          rw [hrx] at CRI
          have HSY := Aside0.mk hs2
          clear hs2 HSX hrx hq
          go_wp2_with (first | (go_at_call 99; (with_reducible refine (CRI.out _).mono ?_); rintro e WR ⟨rfl, hb⟩; have HB2 := Aside0.mk (below_then HB.out HB.out.size hb); clear hb))
          go_roundg ko
          case measure => have := HJ.out; omega
          case rel => exact ⟨j + 1, by go_num, by rw [HSY.out], ⟨by have := HJ.out; omega⟩, HB2⟩
      · have hs2 : wantJ r0 (l.take (j + 1)) = wantJ r0 (l.take j) := by rw [HSX.out, if_neg (fun h => hq h.1)]
        have HSY := Aside0.mk hs2
        generalize wantJ r0 (l.take j) = q at *
        have d0 : (q == 0) = false := beq_eq_false_iff_ne.2 hq
        clear hs2 HSX hq CRI
        go_wp2
        go_roundg ko
        case measure => have := HJ.out; omega
        case rel => exact ⟨j + 1, by go_num, by rw [HSY.out], ⟨by have := HJ.out; omega⟩, HB⟩
    · have p3 : decide ((j : Int) < (l.length : Int)) = false := decide_eq_false (by omega)
      have htk : l.take j = l := List.take_of_length_le (by omega)
      rw [htk]
      generalize wantJ r0 l = q at *
      have hb := HB.out
      replace HA := Aside0.mk (HA.out.below hb)
      replace P0 := Aside0.mk (P0.out.below hb)
      replace P1 := Aside0.mk (P1.out.below hb)
      replace N0 := Aside0.mk (N0.out.below hb)
      replace N1 := Aside0.mk (N1.out.below hb)
      replace X := Aside0.mk (X.out.below hb)
      replace T7 := Aside0.mk (T7.out.below hb)
      replace hx := fun i => X.out.cell i
      replace ht7 := fun i => T7.out.cell i
      replace B := Aside0.mk (below_then B.out B.out.size hb)
      clear hb HB htk
      have hw_ := HW.out
      cases b1 with
      | false =>
        rw [if_neg (by simp)] at hw_
        subst hw_
        clear HW
        go_wp2_with (first | (go_at_call 32; (with_reducible refine (RP_.out _ _ P0.out).mono ?_); rintro e W6 ⟨rfl, hb⟩; replace B := Aside0.mk (below_then B.out B.out.size hb); replace HA := Aside0.mk (HA.out.below hb); replace P0 := Aside0.mk (P0.out.below hb); replace P1 := Aside0.mk (P1.out.below hb); replace N0 := Aside0.mk (N0.out.below hb); replace N1 := Aside0.mk (N1.out.below hb); replace X := Aside0.mk (X.out.below hb); replace hx := fun i => X.out.cell i; replace T7 := Aside0.mk (T7.out.below hb); replace ht7 := fun i => T7.out.cell i; clear  hb) | (go_at_call 109; (with_reducible refine (empty10_x _ _ _ _ _ _ _ _ _).mono ?_); rintro e W8 ⟨rfl, hb⟩; replace B := Aside0.mk (below_then B.out B.out.size hb); replace HA := Aside0.mk (HA.out.below hb); replace P0 := Aside0.mk (P0.out.below hb); replace P1 := Aside0.mk (P1.out.below hb); replace N0 := Aside0.mk (N0.out.below hb); replace N1 := Aside0.mk (N1.out.below hb); replace X := Aside0.mk (X.out.below hb); replace hx := fun i => X.out.cell i; replace T7 := Aside0.mk (T7.out.below hb); replace ht7 := fun i => T7.out.cell i; clear  hb) | (go_at_call 95; (with_reducible refine (awake10_c _).mono ?_); rintro e W9 ⟨rfl, hb⟩; replace B := Aside0.mk (below_then B.out B.out.size hb); replace HA := Aside0.mk (HA.out.below hb); replace P0 := Aside0.mk (P0.out.below hb); replace P1 := Aside0.mk (P1.out.below hb); replace N0 := Aside0.mk (N0.out.below hb); replace N1 := Aside0.mk (N1.out.below hb); replace X := Aside0.mk (X.out.below hb); replace hx := fun i => X.out.cell i; replace T7 := Aside0.mk (T7.out.below hb); replace ht7 := fun i => T7.out.cell i; clear  hb))
        go_ret
        exact ⟨rfl, B.out⟩
      | true =>
        cases b2 with
        | false =>
          rw [if_neg (by simp)] at hw_
          subst hw_
          clear HW
          go_wp2_with (first | (go_at_call 32; (with_reducible refine (RP_.out _ _ P0.out).mono ?_); rintro e W6 ⟨rfl, hb⟩; replace B := Aside0.mk (below_then B.out B.out.size hb); replace HA := Aside0.mk (HA.out.below hb); replace P0 := Aside0.mk (P0.out.below hb); replace P1 := Aside0.mk (P1.out.below hb); replace N0 := Aside0.mk (N0.out.below hb); replace N1 := Aside0.mk (N1.out.below hb); replace X := Aside0.mk (X.out.below hb); replace hx := fun i => X.out.cell i; replace T7 := Aside0.mk (T7.out.below hb); replace ht7 := fun i => T7.out.cell i; clear  hb) | (go_at_call 32; (with_reducible refine (RN_.out _ _ N0.out).mono ?_); rintro e W7 ⟨rfl, hb⟩; replace B := Aside0.mk (below_then B.out B.out.size hb); replace HA := Aside0.mk (HA.out.below hb); replace P0 := Aside0.mk (P0.out.below hb); replace P1 := Aside0.mk (P1.out.below hb); replace N0 := Aside0.mk (N0.out.below hb); replace N1 := Aside0.mk (N1.out.below hb); replace X := Aside0.mk (X.out.below hb); replace hx := fun i => X.out.cell i; replace T7 := Aside0.mk (T7.out.below hb); replace ht7 := fun i => T7.out.cell i; clear  hb) | (go_at_call 109; (with_reducible refine (empty10_x _ _ _ _ _ _ _ _ _).mono ?_); rintro e W8 ⟨rfl, hb⟩; replace B := Aside0.mk (below_then B.out B.out.size hb); replace HA := Aside0.mk (HA.out.below hb); replace P0 := Aside0.mk (P0.out.below hb); replace P1 := Aside0.mk (P1.out.below hb); replace N0 := Aside0.mk (N0.out.below hb); replace N1 := Aside0.mk (N1.out.below hb); replace X := Aside0.mk (X.out.below hb); replace hx := fun i => X.out.cell i; replace T7 := Aside0.mk (T7.out.below hb); replace ht7 := fun i => T7.out.cell i; clear  hb) | (go_at_call 95; (with_reducible refine (awake10_c _).mono ?_); rintro e W9 ⟨rfl, hb⟩; replace B := Aside0.mk (below_then B.out B.out.size hb); replace HA := Aside0.mk (HA.out.below hb); replace P0 := Aside0.mk (P0.out.below hb); replace P1 := Aside0.mk (P1.out.below hb); replace N0 := Aside0.mk (N0.out.below hb); replace N1 := Aside0.mk (N1.out.below hb); replace X := Aside0.mk (X.out.below hb); replace hx := fun i => X.out.cell i; replace T7 := Aside0.mk (T7.out.below hb); replace ht7 := fun i => T7.out.cell i; clear  hb))
          go_ret
          exact ⟨rfl, B.out⟩
        | true =>
          rw [if_pos (by simp)] at hw_
          subst hw_
          clear HW
          go_wp2_with (first | (go_at_call 32; (with_reducible refine (RP_.out _ _ P0.out).mono ?_); rintro e W6 ⟨rfl, hb⟩; replace B := Aside0.mk (below_then B.out B.out.size hb); replace HA := Aside0.mk (HA.out.below hb); replace P0 := Aside0.mk (P0.out.below hb); replace P1 := Aside0.mk (P1.out.below hb); replace N0 := Aside0.mk (N0.out.below hb); replace N1 := Aside0.mk (N1.out.below hb); replace X := Aside0.mk (X.out.below hb); replace hx := fun i => X.out.cell i; replace T7 := Aside0.mk (T7.out.below hb); replace ht7 := fun i => T7.out.cell i; clear  hb) | (go_at_call 32; (with_reducible refine (RN_.out _ _ N0.out).mono ?_); rintro e W7 ⟨rfl, hb⟩; replace B := Aside0.mk (below_then B.out B.out.size hb); replace HA := Aside0.mk (HA.out.below hb); replace P0 := Aside0.mk (P0.out.below hb); replace P1 := Aside0.mk (P1.out.below hb); replace N0 := Aside0.mk (N0.out.below hb); replace N1 := Aside0.mk (N1.out.below hb); replace X := Aside0.mk (X.out.below hb); replace hx := fun i => X.out.cell i; replace T7 := Aside0.mk (T7.out.below hb); replace ht7 := fun i => T7.out.cell i; clear  hb) | (go_at_call 109; (with_reducible refine (empty10_x _ _ _ _ _ _ _ _ _).mono ?_); rintro e W8 ⟨rfl, hb⟩; replace B := Aside0.mk (below_then B.out B.out.size hb); replace HA := Aside0.mk (HA.out.below hb); replace P0 := Aside0.mk (P0.out.below hb); replace P1 := Aside0.mk (P1.out.below hb); replace N0 := Aside0.mk (N0.out.below hb); replace N1 := Aside0.mk (N1.out.below hb); replace X := Aside0.mk (X.out.below hb); replace hx := fun i => X.out.cell i; replace T7 := Aside0.mk (T7.out.below hb); replace ht7 := fun i => T7.out.cell i; clear  hb) | (go_at_call 95; (with_reducible refine (awake10_c _).mono ?_); rintro e W9 ⟨rfl, hb⟩; replace B := Aside0.mk (below_then B.out B.out.size hb); replace HA := Aside0.mk (HA.out.below hb); replace P0 := Aside0.mk (P0.out.below hb); replace P1 := Aside0.mk (P1.out.below hb); replace N0 := Aside0.mk (N0.out.below hb); replace N1 := Aside0.mk (N1.out.below hb); replace X := Aside0.mk (X.out.below hb); replace hx := fun i => X.out.cell i; replace T7 := Aside0.mk (T7.out.below hb); replace ht7 := fun i => T7.out.cell i; clear  hb))
          go_ret
          exact ⟨rfl, B.out⟩
set_option maxHeartbeats 64000000 in
set_option maxRecDepth 100000 in
theorem fhistMakes_yes (a : Fh) (p n : List Pu) (hw : wfG a) (hp : wfPus p) (hn : wfPus n) (n5 : a.f5.length < 8796093022208) (n6 : a.f6.length < 8796093022208) (lp : p.length ≤ 300) (ln : n.length ≤ 300) (hr : wantF a p n = 0) (w : World) (u : Value) (ap an : Option Addr) (cp cn : Nat) (hua : GI w u a) (hvp : SI kPu w (.slice ap p.length cp) p) (hvn : SI kPu w (.slice an n.length cn) n) : Calls Try.prog 26 #[u, .slice ap p.length cp, .slice an n.length cn] w fun e w' => e = .returned (.bool true) ∧ Below w.heap.size w w' := by
  have hud := Try.underlying79
  have hur := Try.underlying84
  have ap_ := apart10_c p lp
  have an_ := apart10_c n ln
  have cr := ref10_c a (by omega) (by omega)
  have cq := refCheckF_c ⟨a.f0, a.f1, a.f2, a.f3, a.f4, [], [], [], []⟩ ⟨hw.1, hw.2.1, hw.2.2.1, hw.2.2.2.1, hw.2.2.2.2.1, fun x hx => (by cases hx), fun x hx => (by cases hx), fun x hx => (by cases hx), fun x hx => (by cases hx), by simp, by simp⟩
  rw [bareF_check] at cq
  have rp_ := refRising_c (p.map (·.f0)) (by simp; omega)
  have rn_ := refRising_c (n.map (·.f0)) (by simp; omega)
  have g1 : decide ((p.length : Int) > 300) = false := decide_eq_false (by omega)
  have g2 : decide ((n.length : Int) > 300) = false := decide_eq_false (by omega)
  have g3 : ¬ (300 : Int) < (p.length : Int) := by omega
  have g4 : ¬ (300 : Int) < (n.length : Int) := by omega
  have LN := Aside0.mk (And.intro (show (p.map (·.f1)).length ≤ 300 by rw [List.length_map]; exact lp) (show (n.map (·.f1)).length ≤ 300 by rw [List.length_map]; exact ln))
  have AP_ := Aside0.mk ap_
  have AN_ := Aside0.mk an_
  have CR := Aside0.mk cr
  have CQ := Aside0.mk cq
  clear ap_ an_ cr cq
  obtain ⟨q1, q2, q3, q4, q5, q6, q7, q8, q9, q10, q11⟩ := (wantF_make (h := a) (p := p) (n := n) lp ln).2.2 hr
  have hWm := madeG_wf (p := p) (n := n) hw ⟨hp, by omega⟩ ⟨hn, by omega⟩
  have cm0 := fmake_n a p n hWm ⟨hp, by omega⟩ ⟨hn, by omega⟩
  rw [q1] at cm0
  have cm : ∀ (w : World) (v vp vn : Value), GI w v a → SI kPu w vp p → SI kPu w vn n → Calls Try.prog 115 #[v, vp, vn] w fun e w' => ∃ v', e = .returned (.tuple #[v', .int .i64 0]) ∧ GI w' v' (madeF a p n) ∧ Below w.heap.size w w' := fun w v vp vn h1 h2 h3 => (cm0 w v vp vn h1 h2 h3).mono fun e w1 ⟨v', e1, e2, e3⟩ => ⟨v', e1, e2.now, e3⟩
  have hwn : wantF a p n = if rises (-1048576) (p.map (·.f0)) = true ∧ rises (-1048576) (n.map (·.f0)) = true then wantJ (headF a) (p.map (·.f1) ++ n.map (·.f1)) else 11 := rfl
  rw [hr] at hwn
  have rr : rises (-1048576) (p.map (·.f0)) = true ∧ rises (-1048576) (n.map (·.f0)) = true := by
    by_cases c : rises (-1048576) (p.map (·.f0)) = true ∧ rises (-1048576) (n.map (·.f0)) = true
    · exact c
    · rw [if_neg c] at hwn; cases hwn
  rw [if_pos rr] at hwn
  rw [rr.1] at rp_
  rw [rr.2] at rn_
  have plp := places10_c (madeF a p n).f5 hWm.2.2.2.2.2.1 (by omega) q4
  have pln := places10_c (madeF a p n).f6 hWm.2.2.2.2.2.2.1 (by omega) q5
  rw [q6] at plp
  rw [q7] at pln
  have smp := same10_c (madeF a p n).f7 (by rw [q8, List.length_map]; omega)
  have smn := same10_c (madeF a p n).f8 (by rw [q9, List.length_map]; omega)
  have N5 := Aside0.mk (canonical_c (madeF a p n).f5 hWm.2.2.2.2.2.1 q2 q4)
  have N6 := Aside0.mk (canonical_c (madeF a p n).f6 hWm.2.2.2.2.2.2.1 q3 q5)
  have hsn : sameNumsF (madeF a p n) a := ⟨rfl, rfl, rfl, rfl, rfl⟩
  generalize headF a = r0 at *
  generalize madeF a p n = m at *
  generalize p.map (·.f0) = lp0 at *
  generalize n.map (·.f0) = ln0 at *
  generalize p.map (·.f1) = lp1 at *
  generalize n.map (·.f1) = ln1 at *
  obtain ⟨m0, m1, m2, m3, m4, m5, m6, m7, m8⟩ := m
  obtain ⟨e0, e1, e2, e3, e4⟩ := hsn
  simp only at e0 e1 e2 e3 e4 q8 q9
  subst e0; subst e1; subst e2; subst e3; subst e4
  have q8' := q8.symm
  have q9' := q9.symm
  subst q8'; subst q9'
  have CM := Aside0.mk cm
  have RP_ := Aside0.mk rp_
  have RN_ := Aside0.mk rn_
  have PLP := Aside0.mk plp
  have PLN := Aside0.mk pln
  have SMP := Aside0.mk smp
  have SMN := Aside0.mk smn
  have HW := Aside0.mk hwn.symm
  clear cm cm0 hr hwn rr rp_ rn_ plp pln smp smn q1 q2 q3 q4 q5 q6 q7 q10 q11 hWm hw hp hn lp ln n5 n6
  obtain ⟨A5a, c5a, A6a, c6a, A7a, c7a, A8a, c8a, e, k5a, k6a, k7a, k8a⟩ := hua.open_
  subst e
  have B := Aside0.mk (below_alloc (Below.refl w.heap.size w) (.cells #[.int .i64 a.f0, .int .u64 a.f1, .int .u64 a.f2, .int .u64 a.f3, .int .u64 a.f4, .slice A5a a.f5.length c5a, .slice A6a a.f6.length c6a, .slice A7a a.f7.length c7a, .slice A8a a.f8.length c8a] 79))
  have X := Aside0.mk (Blk.new w #[.int .i64 a.f0, .int .u64 a.f1, .int .u64 a.f2, .int .u64 a.f3, .int .u64 a.f4, .slice A5a a.f5.length c5a, .slice A6a a.f6.length c6a, .slice A7a a.f7.length c7a, .slice A8a a.f8.length c8a] 79)
  have hx := fun i => X.out.cell i
  have HA := Aside0.mk (hua.below B.out)
  have K5a := Aside0.mk (k5a.below B.out)
  have K6a := Aside0.mk (k6a.below B.out)
  have K7a := Aside0.mk (k7a.below B.out)
  have K8a := Aside0.mk (k8a.below B.out)
  have VP := Aside0.mk (hvp.below B.out)
  have VN := Aside0.mk (hvn.below B.out)
  clear hua k5a k6a k7a k8a hvp hvn
  go_enter Try.func26, Try.ntmps26
  go_wp2_with (first | (go_at_call 115; (with_reducible refine (CM.out _ _ _ _ HA.out VP.out VN.out).mono ?_); rintro e W1 ⟨mv, rfl, hm, hb⟩; replace B := Aside0.mk (below_then B.out B.out.size hb); replace HA := Aside0.mk (HA.out.below hb); replace VP := Aside0.mk (VP.out.below hb); replace VN := Aside0.mk (VN.out.below hb); replace X := Aside0.mk (X.out.below hb); replace hx := fun i => X.out.cell i; have M := Aside0.mk hm; have hm' := M.out; obtain ⟨mA5, mc5, mA6, mc6, mA7, mc7, mA8, mc8, ec, h5, h6, h7, h8⟩ := hm'.open_; dsimp only at ec h5 h6 h7 h8; subst ec; have C5 := Aside0.mk h5; have C6 := Aside0.mk h6; have C7 := Aside0.mk h7; have C8 := Aside0.mk h8; clear h5 h6 h7 h8; have hxa := fun i => (X.out.alloc (.cells #[.int .i64 a.f0, .int .u64 a.f1, .int .u64 a.f2, .int .u64 a.f3, .int .u64 a.f4, .slice mA5 m5.length mc5, .slice mA6 m6.length mc6, .slice mA7 lp1.length mc7, .slice mA8 ln1.length mc8] 79)).cell i; clear hm hb))
  (try clear hxa)
  have hal := below_alloc (Below.refl W1.heap.size W1) (.cells #[.int .i64 a.f0, .int .u64 a.f1, .int .u64 a.f2, .int .u64 a.f3, .int .u64 a.f4, .slice mA5 m5.length mc5, .slice mA6 m6.length mc6, .slice mA7 lp1.length mc7, .slice mA8 ln1.length mc8] 79)
  replace B := Aside0.mk (below_then B.out B.out.size hal)
  replace HA := Aside0.mk (HA.out.below hal)
  replace VP := Aside0.mk (VP.out.below hal)
  replace VN := Aside0.mk (VN.out.below hal)
  replace C5 := Aside0.mk (C5.out.below hal)
  replace C6 := Aside0.mk (C6.out.below hal)
  replace C7 := Aside0.mk (C7.out.below hal)
  replace C8 := Aside0.mk (C8.out.below hal)
  replace X := Aside0.mk (X.out.alloc (.cells #[.int .i64 a.f0, .int .u64 a.f1, .int .u64 a.f2, .int .u64 a.f3, .int .u64 a.f4, .slice mA5 m5.length mc5, .slice mA6 m6.length mc6, .slice mA7 lp1.length mc7, .slice mA8 ln1.length mc8] 79)); replace hx := fun i => X.out.cell i
  have T7 := Aside0.mk (Blk.new W1 #[.int .i64 a.f0, .int .u64 a.f1, .int .u64 a.f2, .int .u64 a.f3, .int .u64 a.f4, .slice mA5 m5.length mc5, .slice mA6 m6.length mc6, .slice mA7 lp1.length mc7, .slice mA8 ln1.length mc8] 79); have ht7 := fun i => T7.out.cell i; clear hal
  go_wp2_with (first | (go_at_call 116; (with_reducible refine (AP_.out _ _ VP.out).mono ?_); rintro e W2 ⟨v0, v1, rfl, h0, h1, hb⟩; replace B := Aside0.mk (below_then B.out B.out.size hb); replace HA := Aside0.mk (HA.out.below hb); replace VP := Aside0.mk (VP.out.below hb); replace VN := Aside0.mk (VN.out.below hb); replace C5 := Aside0.mk (C5.out.below hb); replace C6 := Aside0.mk (C6.out.below hb); replace C7 := Aside0.mk (C7.out.below hb); replace C8 := Aside0.mk (C8.out.below hb); replace X := Aside0.mk (X.out.below hb); replace hx := fun i => X.out.cell i; replace T7 := Aside0.mk (T7.out.below hb); replace ht7 := fun i => T7.out.cell i; have P0 := Aside0.mk h0; have P1 := Aside0.mk h1; have hl' := P1.out; obtain ⟨p1_A, p1_c, eL, -, -⟩ := hl'; subst eL; clear h0 h1 hb) | (go_at_call 116; (with_reducible refine (AN_.out _ _ VN.out).mono ?_); rintro e W3 ⟨v2, v3, rfl, h0, h1, hb⟩; replace B := Aside0.mk (below_then B.out B.out.size hb); replace HA := Aside0.mk (HA.out.below hb); replace VP := Aside0.mk (VP.out.below hb); replace VN := Aside0.mk (VN.out.below hb); replace C5 := Aside0.mk (C5.out.below hb); replace C6 := Aside0.mk (C6.out.below hb); replace C7 := Aside0.mk (C7.out.below hb); replace C8 := Aside0.mk (C8.out.below hb); replace P0 := Aside0.mk (P0.out.below hb); replace P1 := Aside0.mk (P1.out.below hb); replace X := Aside0.mk (X.out.below hb); replace hx := fun i => X.out.cell i; replace T7 := Aside0.mk (T7.out.below hb); replace ht7 := fun i => T7.out.cell i; have N0 := Aside0.mk h0; have N1 := Aside0.mk h1; have hl' := N1.out; obtain ⟨n1_A, n1_c, eL, -, -⟩ := hl'; subst eL; clear h0 h1 hb) | (go_at_call 97; (with_reducible refine (CR.out _ _ HA.out).mono ?_); rintro e W4 ⟨rv, rfl, hr, hb⟩; replace B := Aside0.mk (below_then B.out B.out.size hb); replace HA := Aside0.mk (HA.out.below hb); replace VP := Aside0.mk (VP.out.below hb); replace VN := Aside0.mk (VN.out.below hb); replace C5 := Aside0.mk (C5.out.below hb); replace C6 := Aside0.mk (C6.out.below hb); replace C7 := Aside0.mk (C7.out.below hb); replace C8 := Aside0.mk (C8.out.below hb); replace P0 := Aside0.mk (P0.out.below hb); replace P1 := Aside0.mk (P1.out.below hb); replace N0 := Aside0.mk (N0.out.below hb); replace N1 := Aside0.mk (N1.out.below hb); replace X := Aside0.mk (X.out.below hb); replace hx := fun i => X.out.cell i; replace T7 := Aside0.mk (T7.out.below hb); replace ht7 := fun i => T7.out.cell i; obtain ⟨rA5, rc5, rA6, rc6, rA7, rc7, rA8, rc8, er, -⟩ := hr.open_; subst er; clear hr; have hxa := fun i => (X.out.alloc (.cells #[.int .i64 a.f0, .int .u64 a.f1, .int .u64 a.f2, .int .u64 a.f3, .int .u64 a.f4, .slice none 0 0, .slice none 0 0, .slice none 0 0, .slice none 0 0] 84)).cell i; have ht7a := fun i => (T7.out.alloc (.cells #[.int .i64 a.f0, .int .u64 a.f1, .int .u64 a.f2, .int .u64 a.f3, .int .u64 a.f4, .slice none 0 0, .slice none 0 0, .slice none 0 0, .slice none 0 0] 84)).cell i; clear hb) | (go_at_call 63; (with_reducible refine (CQ.out _ _ (GR.bare _ a)).mono ?_); rintro e W5 ⟨rfl, hb⟩; have hb := below_then (below_alloc (Below.refl W4.heap.size W4) (.cells #[.int .i64 a.f0, .int .u64 a.f1, .int .u64 a.f2, .int .u64 a.f3, .int .u64 a.f4, .slice none 0 0, .slice none 0 0, .slice none 0 0, .slice none 0 0] 84)) ((below_alloc (Below.refl W4.heap.size W4) (.cells #[.int .i64 a.f0, .int .u64 a.f1, .int .u64 a.f2, .int .u64 a.f3, .int .u64 a.f4, .slice none 0 0, .slice none 0 0, .slice none 0 0, .slice none 0 0] 84))).size hb; replace B := Aside0.mk (below_then B.out B.out.size hb); replace HA := Aside0.mk (HA.out.below hb); replace C5 := Aside0.mk (C5.out.below hb); replace C6 := Aside0.mk (C6.out.below hb); replace C7 := Aside0.mk (C7.out.below hb); replace C8 := Aside0.mk (C8.out.below hb); replace P0 := Aside0.mk (P0.out.below hb); replace P1 := Aside0.mk (P1.out.below hb); replace N0 := Aside0.mk (N0.out.below hb); replace N1 := Aside0.mk (N1.out.below hb); replace X := Aside0.mk (X.out.below hb); replace hx := fun i => X.out.cell i; replace T7 := Aside0.mk (T7.out.below hb); replace ht7 := fun i => T7.out.cell i; clear hxa ht7a; clear  hb) | ((with_reducible refine gate_builtin (b := .append) (xs := #[.tmp 51, .tmp 52]) rfl ?_); at_builtin; refine Kd.R_append_rows (Kd.int .u64) (w0 := W5) W5.heap.size rfl (.tmp 51) (.tmp 52) 77 62 (.int .u64 0) 8 rfl Try.underlying77 info62 rfl (by decide) (by omega) (.slice (some ⟨W5.heap.size, 0, none⟩) 0 0) [] lp1 _ _ _ (fun _ => True) (fun _ => False) rfl rfl ?aO ?aR (fun _ _ h => h) (fun _ h => h.elim) (fun _ _ => trivial) ?aB ?aS ?aL ?_; (case aO => exact ⟨fun _ _ => trivial, [], ⟨rfl, .inr ⟨W5.heap.size, 0, #[], rfl, Nat.le_refl _, (show (W5.alloc (.cells #[] 62)).heap[W5.heap.size]? = _ from by simpa using blk_new W5 (.cells #[] 62)), Nat.le_refl _, by unfold maxLen; omega, rfl, rfl⟩⟩, Reps.none _ _⟩); (case aR => (obtain ⟨_, _, e', _, hr'⟩ := P1.out.below (below_alloc (Below.refl _ _) _); cases e'; exact hr')); (case aB => exact below_alloc (Below.refl _ _) _); (case aS => simp); (case aL => (have := LN.out; simp; omega)); intro v1 w1 ho hb hg hat; rw [List.nil_append] at ho; have HO1 := Aside0.mk ho; have HB1 := Aside0.mk hb; clear ho hb hg hat) | ((with_reducible refine gate_builtin (b := .append) (xs := #[.tmp 53, .tmp 54]) rfl ?_); at_builtin; refine Kd.R_append_rows (Kd.int .u64) (w0 := W5) W5.heap.size rfl (.tmp 53) (.tmp 54) 77 62 (.int .u64 0) 8 rfl Try.underlying77 info62 rfl (by decide) (by omega) _ lp1 ln1 _ _ _ (fun _ => True) (fun _ => False) rfl rfl ?aO ?aR (fun _ _ h => h) (fun _ h => h.elim) (fun _ _ => trivial) ?aB ?aS ?aL ?_; (case aO => exact HO1.out); (case aR => (obtain ⟨_, _, e', _, hr'⟩ := N1.out.below HB1.out; cases e'; exact hr')); (case aB => exact HB1.out); (case aS => exact HB1.out.size); (case aL => (have := LN.out; omega)); intro v2 w2 ho hb hg hat; obtain ⟨l, el⟩ : ∃ l_, l_ = lp1 ++ ln1 := ⟨_, rfl⟩; rw [← el] at ho; have EL := Aside0.mk el; clear el; have L := Aside0.mk (SI.of_R ho); have hl' := L.out; obtain ⟨LA, Lc, eL, hLc, hLr⟩ := hl'; subst eL; have HR := Aside0.mk hLr; clear hLc hLr; replace B := Aside0.mk (below_then B.out B.out.size hb); replace HA := Aside0.mk (HA.out.below hb); replace C5 := Aside0.mk (C5.out.below hb); replace C6 := Aside0.mk (C6.out.below hb); replace C7 := Aside0.mk (C7.out.below hb); replace C8 := Aside0.mk (C8.out.below hb); replace P0 := Aside0.mk (P0.out.below hb); replace P1 := Aside0.mk (P1.out.below hb); replace N0 := Aside0.mk (N0.out.below hb); replace N1 := Aside0.mk (N1.out.below hb); replace X := Aside0.mk (X.out.below hb); replace hx := fun i => X.out.cell i; replace T7 := Aside0.mk (T7.out.below hb); replace ht7 := fun i => T7.out.cell i; clear ho hb hg hat HO1 HB1))
  have NL := Aside0.mk (show l.length ≤ 600 by have := LN.out; rw [EL.out, List.length_append]; omega)
  rw [← EL.out] at HW
  clear LN EL
  go_loopg [14, 57] l.length (fun gg v14 v57 wr => ∃ j : Nat, v57 = .int .i64 (j : Int) ∧ v14 = .int .i64 (wantJ r0 (l.take j)) ∧ Aside0 (j + gg = l.length) ∧ Aside0 (Below w2.heap.size w2 wr))
  case atStart => exact ⟨0, rfl, (by simp [wantJ]), ⟨by simp⟩, ⟨Below.refl _ _⟩⟩
  case round =>
    obtain ⟨j, rfl, rfl, HJ, HB⟩ := hrel
    by_cases hlt : j < l.length
    · obtain ⟨ko, rfl⟩ : ∃ ko, gk = ko + 1 := ⟨gk - 1, by have := HJ.out; omega⟩
      have hHR := Kd.C_below HR.out HB.out
      obtain ⟨ad, ea, hcell⟩ := Kd.at_int hHR (j : Int) (by omega) (by omega)
      subst ea
      rw [Int.toNat_natCast, rd_at hlt] at hcell
      have htk : l.take (j + 1) = l.take j ++ [l[j]] := List.take_succ_eq_append_getElem hlt
      have hs := wantJ_step r0 (l.take j) l[j]
      rw [← htk] at hs
      have HSX := Aside0.mk hs
      have cright := fun w => refRight_c l[j] w
      generalize l[j] = x at *
      have p1 : (0 : Int) ≤ (j : Int) := by omega
      have p2 : (j : Int) < (l.length : Int) := by omega
      have p3 : decide ((j : Int) < (l.length : Int)) = true := decide_eq_true p2
      have p4 : wrap64 ((j : Int) + 1) = ((j + 1 : Nat) : Int) := by have := NL.out; rw [wrap_succ (by omega)]
      have CRI := Aside0.mk cright
      clear hs htk hHR cright
      by_cases hq : wantJ r0 (l.take j) = 0
      · rw [hq]
        cases hrx : rightF x with
        | true =>
          have hs2 : wantJ r0 (l.take (j + 1)) = 0 := by rw [HSX.out, if_neg (by simp [hrx]), hq]
          rw [hrx] at CRI
          have HSY := Aside0.mk hs2
          clear hs2 HSX hrx hq
          go_wp2_with (first | (go_at_call 99; (with_reducible refine (CRI.out _).mono ?_); rintro e WR ⟨rfl, hb⟩; have HB2 := Aside0.mk (below_then HB.out HB.out.size hb); clear hb))
          go_roundg ko
          case measure => have := HJ.out; omega
          case rel => exact ⟨j + 1, by go_num, by rw [HSY.out], ⟨by have := HJ.out; omega⟩, HB2⟩
        | false =>
          have hs2 : wantJ r0 (l.take (j + 1)) = 22 := by rw [HSX.out, if_pos (by simp [hrx, hq])]
          rw [hrx] at CRI
          have HSY := Aside0.mk hs2
          clear hs2 HSX hrx hq
          go_wp2_with (first | (go_at_call 99; (with_reducible refine (CRI.out _).mono ?_); rintro e WR ⟨rfl, hb⟩; have HB2 := Aside0.mk (below_then HB.out HB.out.size hb); clear hb))
          go_roundg ko
          case measure => have := HJ.out; omega
          case rel => exact ⟨j + 1, by go_num, by rw [HSY.out], ⟨by have := HJ.out; omega⟩, HB2⟩
      · have hs2 : wantJ r0 (l.take (j + 1)) = wantJ r0 (l.take j) := by rw [HSX.out, if_neg (fun h => hq h.1)]
        have HSY := Aside0.mk hs2
        generalize wantJ r0 (l.take j) = q at *
        have d0 : (q == 0) = false := beq_eq_false_iff_ne.2 hq
        clear hs2 HSX hq CRI
        go_wp2
        go_roundg ko
        case measure => have := HJ.out; omega
        case rel => exact ⟨j + 1, by go_num, by rw [HSY.out], ⟨by have := HJ.out; omega⟩, HB⟩
    · have p3 : decide ((j : Int) < (l.length : Int)) = false := decide_eq_false (by omega)
      have htk : l.take j = l := List.take_of_length_le (by omega)
      rw [htk]
      generalize wantJ r0 l = q at *
      have hb := HB.out
      replace HA := Aside0.mk (HA.out.below hb)
      replace C5 := Aside0.mk (C5.out.below hb)
      replace C6 := Aside0.mk (C6.out.below hb)
      replace C7 := Aside0.mk (C7.out.below hb)
      replace C8 := Aside0.mk (C8.out.below hb)
      replace P0 := Aside0.mk (P0.out.below hb)
      replace P1 := Aside0.mk (P1.out.below hb)
      replace N0 := Aside0.mk (N0.out.below hb)
      replace N1 := Aside0.mk (N1.out.below hb)
      replace X := Aside0.mk (X.out.below hb)
      replace T7 := Aside0.mk (T7.out.below hb)
      replace hx := fun i => X.out.cell i
      replace ht7 := fun i => T7.out.cell i
      replace B := Aside0.mk (below_then B.out B.out.size hb)
      clear hb HB htk
      have hw_ : q = 0 := HW.out
      subst hw_
      clear HW
      go_wp2_with (first | (go_at_call 32; (with_reducible refine (RP_.out _ _ P0.out).mono ?_); rintro e W6 ⟨rfl, hb⟩; replace B := Aside0.mk (below_then B.out B.out.size hb); replace HA := Aside0.mk (HA.out.below hb); replace C5 := Aside0.mk (C5.out.below hb); replace C6 := Aside0.mk (C6.out.below hb); replace C7 := Aside0.mk (C7.out.below hb); replace C8 := Aside0.mk (C8.out.below hb); replace P0 := Aside0.mk (P0.out.below hb); replace P1 := Aside0.mk (P1.out.below hb); replace N0 := Aside0.mk (N0.out.below hb); replace N1 := Aside0.mk (N1.out.below hb); replace X := Aside0.mk (X.out.below hb); replace hx := fun i => X.out.cell i; replace T7 := Aside0.mk (T7.out.below hb); replace ht7 := fun i => T7.out.cell i; clear  hb) | (go_at_call 32; (with_reducible refine (RN_.out _ _ N0.out).mono ?_); rintro e W7 ⟨rfl, hb⟩; replace B := Aside0.mk (below_then B.out B.out.size hb); replace HA := Aside0.mk (HA.out.below hb); replace C5 := Aside0.mk (C5.out.below hb); replace C6 := Aside0.mk (C6.out.below hb); replace C7 := Aside0.mk (C7.out.below hb); replace C8 := Aside0.mk (C8.out.below hb); replace P0 := Aside0.mk (P0.out.below hb); replace P1 := Aside0.mk (P1.out.below hb); replace N0 := Aside0.mk (N0.out.below hb); replace N1 := Aside0.mk (N1.out.below hb); replace X := Aside0.mk (X.out.below hb); replace hx := fun i => X.out.cell i; replace T7 := Aside0.mk (T7.out.below hb); replace ht7 := fun i => T7.out.cell i; clear  hb) | (go_at_call 117; (with_reducible refine (numbers10_c _ _ _ _ _ _ _ _ _ _ _ _ _ _ _ _ _ _ _ _ _ _ _ _ _ _ _ _ _ _).mono ?_); rintro e W8 ⟨rfl, hb⟩; replace B := Aside0.mk (below_then B.out B.out.size hb); replace HA := Aside0.mk (HA.out.below hb); replace C5 := Aside0.mk (C5.out.below hb); replace C6 := Aside0.mk (C6.out.below hb); replace C7 := Aside0.mk (C7.out.below hb); replace C8 := Aside0.mk (C8.out.below hb); replace P0 := Aside0.mk (P0.out.below hb); replace P1 := Aside0.mk (P1.out.below hb); replace N0 := Aside0.mk (N0.out.below hb); replace N1 := Aside0.mk (N1.out.below hb); replace X := Aside0.mk (X.out.below hb); replace hx := fun i => X.out.cell i; replace T7 := Aside0.mk (T7.out.below hb); replace ht7 := fun i => T7.out.cell i; clear  hb) | (go_at_call 47; (with_reducible refine (N5.out _ _ C5.out).mono ?_); rintro e W9 ⟨rfl, hb⟩; replace B := Aside0.mk (below_then B.out B.out.size hb); replace HA := Aside0.mk (HA.out.below hb); replace C5 := Aside0.mk (C5.out.below hb); replace C6 := Aside0.mk (C6.out.below hb); replace C7 := Aside0.mk (C7.out.below hb); replace C8 := Aside0.mk (C8.out.below hb); replace P0 := Aside0.mk (P0.out.below hb); replace P1 := Aside0.mk (P1.out.below hb); replace N0 := Aside0.mk (N0.out.below hb); replace N1 := Aside0.mk (N1.out.below hb); replace X := Aside0.mk (X.out.below hb); replace hx := fun i => X.out.cell i; replace T7 := Aside0.mk (T7.out.below hb); replace ht7 := fun i => T7.out.cell i; clear  hb) | (go_at_call 47; (with_reducible refine (N6.out _ _ C6.out).mono ?_); rintro e W10 ⟨rfl, hb⟩; replace B := Aside0.mk (below_then B.out B.out.size hb); replace HA := Aside0.mk (HA.out.below hb); replace C5 := Aside0.mk (C5.out.below hb); replace C6 := Aside0.mk (C6.out.below hb); replace C7 := Aside0.mk (C7.out.below hb); replace C8 := Aside0.mk (C8.out.below hb); replace P0 := Aside0.mk (P0.out.below hb); replace P1 := Aside0.mk (P1.out.below hb); replace N0 := Aside0.mk (N0.out.below hb); replace N1 := Aside0.mk (N1.out.below hb); replace X := Aside0.mk (X.out.below hb); replace hx := fun i => X.out.cell i; replace T7 := Aside0.mk (T7.out.below hb); replace ht7 := fun i => T7.out.cell i; clear  hb) | (go_at_call 101; (with_reducible refine (PLP.out _ _ _ C5.out P0.out).mono ?_); rintro e W11 ⟨rfl, hb⟩; replace B := Aside0.mk (below_then B.out B.out.size hb); replace HA := Aside0.mk (HA.out.below hb); replace C5 := Aside0.mk (C5.out.below hb); replace C6 := Aside0.mk (C6.out.below hb); replace C7 := Aside0.mk (C7.out.below hb); replace C8 := Aside0.mk (C8.out.below hb); replace P0 := Aside0.mk (P0.out.below hb); replace P1 := Aside0.mk (P1.out.below hb); replace N0 := Aside0.mk (N0.out.below hb); replace N1 := Aside0.mk (N1.out.below hb); replace X := Aside0.mk (X.out.below hb); replace hx := fun i => X.out.cell i; replace T7 := Aside0.mk (T7.out.below hb); replace ht7 := fun i => T7.out.cell i; clear  hb) | (go_at_call 101; (with_reducible refine (PLN.out _ _ _ C6.out N0.out).mono ?_); rintro e W12 ⟨rfl, hb⟩; replace B := Aside0.mk (below_then B.out B.out.size hb); replace HA := Aside0.mk (HA.out.below hb); replace C5 := Aside0.mk (C5.out.below hb); replace C6 := Aside0.mk (C6.out.below hb); replace C7 := Aside0.mk (C7.out.below hb); replace C8 := Aside0.mk (C8.out.below hb); replace P0 := Aside0.mk (P0.out.below hb); replace P1 := Aside0.mk (P1.out.below hb); replace N0 := Aside0.mk (N0.out.below hb); replace N1 := Aside0.mk (N1.out.below hb); replace X := Aside0.mk (X.out.below hb); replace hx := fun i => X.out.cell i; replace T7 := Aside0.mk (T7.out.below hb); replace ht7 := fun i => T7.out.cell i; clear  hb) | (go_at_call 102; (with_reducible refine (SMP.out _ _ _ C7.out P1.out).mono ?_); rintro e W13 ⟨rfl, hb⟩; replace B := Aside0.mk (below_then B.out B.out.size hb); replace HA := Aside0.mk (HA.out.below hb); replace C5 := Aside0.mk (C5.out.below hb); replace C6 := Aside0.mk (C6.out.below hb); replace C7 := Aside0.mk (C7.out.below hb); replace C8 := Aside0.mk (C8.out.below hb); replace P0 := Aside0.mk (P0.out.below hb); replace P1 := Aside0.mk (P1.out.below hb); replace N0 := Aside0.mk (N0.out.below hb); replace N1 := Aside0.mk (N1.out.below hb); replace X := Aside0.mk (X.out.below hb); replace hx := fun i => X.out.cell i; replace T7 := Aside0.mk (T7.out.below hb); replace ht7 := fun i => T7.out.cell i; clear  hb) | (go_at_call 102; (with_reducible refine (SMN.out _ _ _ C8.out N1.out).mono ?_); rintro e W14 ⟨rfl, hb⟩; replace B := Aside0.mk (below_then B.out B.out.size hb); replace HA := Aside0.mk (HA.out.below hb); replace C5 := Aside0.mk (C5.out.below hb); replace C6 := Aside0.mk (C6.out.below hb); replace C7 := Aside0.mk (C7.out.below hb); replace C8 := Aside0.mk (C8.out.below hb); replace P0 := Aside0.mk (P0.out.below hb); replace P1 := Aside0.mk (P1.out.below hb); replace N0 := Aside0.mk (N0.out.below hb); replace N1 := Aside0.mk (N1.out.below hb); replace X := Aside0.mk (X.out.below hb); replace hx := fun i => X.out.cell i; replace T7 := Aside0.mk (T7.out.below hb); replace ht7 := fun i => T7.out.cell i; clear  hb) | (go_at_call 95; (with_reducible refine (awake10_c _).mono ?_); rintro e W15 ⟨rfl, hb⟩; replace B := Aside0.mk (below_then B.out B.out.size hb); replace HA := Aside0.mk (HA.out.below hb); replace C5 := Aside0.mk (C5.out.below hb); replace C6 := Aside0.mk (C6.out.below hb); replace C7 := Aside0.mk (C7.out.below hb); replace C8 := Aside0.mk (C8.out.below hb); replace P0 := Aside0.mk (P0.out.below hb); replace P1 := Aside0.mk (P1.out.below hb); replace N0 := Aside0.mk (N0.out.below hb); replace N1 := Aside0.mk (N1.out.below hb); replace X := Aside0.mk (X.out.below hb); replace hx := fun i => X.out.cell i; replace T7 := Aside0.mk (T7.out.below hb); replace ht7 := fun i => T7.out.cell i; clear  hb))
      go_ret
      exact ⟨rfl, B.out⟩
set_option maxHeartbeats 16000000 in
set_option maxRecDepth 100000 in
theorem fhistMakes_c (a : Fh) (p n : List Pu) (hw : wfG a) (hp : wfPus p) (hn : wfPus n) (g5 : a.f5.length < 8796093022208) (g6 : a.f6.length < 8796093022208) (w : World) (u vp vn : Value) (hua : GI w u a) (hvp : SI kPu w vp p) (hvn : SI kPu w vn n) : Calls Try.prog 26 #[u, vp, vn] w fun e w' => e = .returned (.bool true) ∧ Below w.heap.size w w' := by
  have hud := Try.underlying79
  have hvp' := hvp
  have hvn' := hvn
  obtain ⟨ap, cp, e1, -⟩ := hvp'
  obtain ⟨an, cn, e2, -⟩ := hvn'
  subst e1; subst e2
  by_cases c1 : p.length ≤ 300
  · by_cases c2 : n.length ≤ 300
    · by_cases hr : wantF a p n = 0
      · exact fhistMakes_yes a p n hw hp hn g5 g6 c1 c2 hr w u ap an cp cn hua hvp hvn
      · exact fhistMakes_no a p n hw hp hn g5 g6 c1 c2 hr w u ap an cp cn hua hvp hvn
    · have g3 : ¬ (300 : Int) < (p.length : Int) := by omega
      have g4 : (300 : Int) < (n.length : Int) := by omega
      clear c1 c2 hp hn hw g5 g6
      obtain ⟨A5a, c5a, A6a, c6a, A7a, c7a, A8a, c8a, e, k5a, k6a, k7a, k8a⟩ := hua.open_
      subst e
      have B := Aside0.mk (below_alloc (Below.refl w.heap.size w) (.cells #[.int .i64 a.f0, .int .u64 a.f1, .int .u64 a.f2, .int .u64 a.f3, .int .u64 a.f4, .slice A5a a.f5.length c5a, .slice A6a a.f6.length c6a, .slice A7a a.f7.length c7a, .slice A8a a.f8.length c8a] 79))
      have X := Aside0.mk (Blk.new w #[.int .i64 a.f0, .int .u64 a.f1, .int .u64 a.f2, .int .u64 a.f3, .int .u64 a.f4, .slice A5a a.f5.length c5a, .slice A6a a.f6.length c6a, .slice A7a a.f7.length c7a, .slice A8a a.f8.length c8a] 79)
      have hx := fun i => X.out.cell i
      have HA := Aside0.mk (hua.below B.out)
      have K5a := Aside0.mk (k5a.below B.out)
      have K6a := Aside0.mk (k6a.below B.out)
      have K7a := Aside0.mk (k7a.below B.out)
      have K8a := Aside0.mk (k8a.below B.out)
      have VP := Aside0.mk (hvp.below B.out)
      have VN := Aside0.mk (hvn.below B.out)
      clear hua k5a k6a k7a k8a hvp hvn
      go_enter Try.func26, Try.ntmps26
      go_wp2_with (first | (go_at_call 95; (with_reducible refine (awake10_c _).mono ?_); rintro e W1 ⟨rfl, hb⟩; replace B := Aside0.mk (below_then B.out B.out.size hb); replace X := Aside0.mk (X.out.below hb); replace hx := fun i => X.out.cell i; clear  hb))
      go_ret
      exact ⟨rfl, B.out⟩
  · have g3 : (300 : Int) < (p.length : Int) := by omega
    clear c1 hp hn hw g5 g6
    obtain ⟨A5a, c5a, A6a, c6a, A7a, c7a, A8a, c8a, e, k5a, k6a, k7a, k8a⟩ := hua.open_
    subst e
    have B := Aside0.mk (below_alloc (Below.refl w.heap.size w) (.cells #[.int .i64 a.f0, .int .u64 a.f1, .int .u64 a.f2, .int .u64 a.f3, .int .u64 a.f4, .slice A5a a.f5.length c5a, .slice A6a a.f6.length c6a, .slice A7a a.f7.length c7a, .slice A8a a.f8.length c8a] 79))
    have X := Aside0.mk (Blk.new w #[.int .i64 a.f0, .int .u64 a.f1, .int .u64 a.f2, .int .u64 a.f3, .int .u64 a.f4, .slice A5a a.f5.length c5a, .slice A6a a.f6.length c6a, .slice A7a a.f7.length c7a, .slice A8a a.f8.length c8a] 79)
    have hx := fun i => X.out.cell i
    have HA := Aside0.mk (hua.below B.out)
    have K5a := Aside0.mk (k5a.below B.out)
    have K6a := Aside0.mk (k6a.below B.out)
    have K7a := Aside0.mk (k7a.below B.out)
    have K8a := Aside0.mk (k8a.below B.out)
    have VP := Aside0.mk (hvp.below B.out)
    have VN := Aside0.mk (hvn.below B.out)
    clear hua k5a k6a k7a k8a hvp hvn
    go_enter Try.func26, Try.ntmps26
    go_wp2_with (first | (go_at_call 95; (with_reducible refine (awake10_c _).mono ?_); rintro e W1 ⟨rfl, hb⟩; replace B := Aside0.mk (below_then B.out B.out.size hb); replace X := Aside0.mk (X.out.below hb); replace hx := fun i => X.out.cell i; clear  hb))
    go_ret
    exact ⟨rfl, B.out⟩
def tidepolelaw10_FhistMakes.f (s0 z0 zc0 ct0 sm0 : Int) (l0_5 l0_6 : List Sp) (l0_7 l0_8 : List Int) (p : List Pu) (n : List Pu) : Option Bool := if wfG ⟨s0, z0, zc0, ct0, sm0, l0_5, l0_6, l0_7, l0_8⟩ ∧ wfPus p ∧ wfPus n ∧ l0_5.length < 8796093022208 ∧ l0_6.length < 8796093022208 then some true else none
theorem tidepolelaw10_FhistMakes.calls (s0 : Int) (z0 : Int) (zc0 : Int) (ct0 : Int) (sm0 : Int) (A0_5 : Option Addr) (c0_5 : Nat) (l0_5 : List Sp) (A0_6 : Option Addr) (c0_6 : Nat) (l0_6 : List Sp) (A0_7 : Option Addr) (c0_7 : Nat) (l0_7 : List Int) (A0_8 : Option Addr) (c0_8 : Nat) (l0_8 : List Int) (Ap : Option Addr) (cp : Nat) (p : List Pu) (An : Option Addr) (cn : Nat) (n : List Pu) (r : Bool) (w : World) (hr0_5 : Kd.C kSp w A0_5 l0_5.length l0_5) (hc0_5 : l0_5.length ≤ c0_5) (hr0_6 : Kd.C kSp w A0_6 l0_6.length l0_6) (hc0_6 : l0_6.length ≤ c0_6) (hr0_7 : Kd.C (Kd.int .u64) w A0_7 l0_7.length l0_7) (hc0_7 : l0_7.length ≤ c0_7) (hr0_8 : Kd.C (Kd.int .u64) w A0_8 l0_8.length l0_8) (hc0_8 : l0_8.length ≤ c0_8) (hrp : Kd.C kPu w Ap p.length p) (hcp : p.length ≤ cp) (hrn : Kd.C kPu w An n.length n) (hcn : n.length ≤ cn) (h : tidepolelaw10_FhistMakes.f s0 z0 zc0 ct0 sm0 l0_5 l0_6 l0_7 l0_8 p n = some r) :
    Calls Try.prog 26 #[.agg #[.int .i64 s0, .int .u64 z0, .int .u64 zc0, .int .u64 ct0, .int .u64 sm0, .slice A0_5 l0_5.length c0_5, .slice A0_6 l0_6.length c0_6, .slice A0_7 l0_7.length c0_7, .slice A0_8 l0_8.length c0_8], .slice Ap p.length cp, .slice An n.length cn] w fun e w' => e = .returned (.bool r) ∧ Below w.heap.size w w' := by
  obtain ⟨⟨q0, q1, q2, q3, q4⟩, rfl⟩ := of_ite_some h
  exact fhistMakes_c _ _ _ q0 q1 q2 q3 q4 w _ _ _ (GI.mk (h := ⟨s0, z0, zc0, ct0, sm0, l0_5, l0_6, l0_7, l0_8⟩) (.of hr0_5 hc0_5) (.of hr0_6 hc0_6) (.of hr0_7 hc0_7) (.of hr0_8 hc0_8)) (.of hrp hcp) (.of hrn hcn)
end Go.Proofs.Ytacgeafjilipdaa.P
namespace Go.Proofs.Ytacgeafjilipdaa.P
open Go
theorem sized_field {H : Type} {P : Program} {enc : TypeId × Value → H} {ts : List TypeId} {ds : List (DataW H)} (h : (DataW.weightsEach P ts ds).all (· ≤ reachBytes) = true) {j : Nat} {t : TypeId} {d : DataW H} {ps : List MemPlace} (ht : ts[j]? = some t) (hd : ds[j]? = some d) {fs : Array Field} (hu : P.underlying t = some (.struct fs)) {w : World} {base : Nat} {spare : Nat → Bool} {held : Bool} {fuel : Nat} {cs : List Value} (hT : DataW.trod enc P w base spare held fuel t cs = some (d, ps)) {i : Nat} {f : Field} (hf : fs[i]? = some f) {e : TypeId} (he : P.underlying f.type = some (.slice e)) {A : Option Addr} {n c : Nat} (hc : (cs.drop f.offset).take (P.cellsOf f.type) = [.slice A n c]) : n * P.bytesOf e ≤ reachBytes := by
  obtain ⟨xs, m, rfl, hx, hl, hxl, hg⟩ := DataW.trod_struct hu hT
  injection hx with hx1 hx2
  subst hx1
  have hi := hg i f hf
  rw [hc] at hi
  have hlt : i < xs.length := by rw [hxl]; exact (Array.getElem?_eq_some_iff.1 hf).1
  have hy : xs[i]? = some xs[i] := List.getElem?_eq_getElem hlt
  rcases DataW.trod_slice he (hi.trans hy) with ⟨h1, h2⟩ | ⟨a, len, cap, elems, rest, m', _, h1, h2, _, _, _, hlen, _⟩
  · injection h1 with h1 _
    injection h1 with _ h1 _
    subst h1; simp
  · injection h1 with h1 _
    injection h1 with _ h1 _
    subst h1
    have hm : (elems.length + rest.length) * P.bytesOf e ∈ DataW.weightsEach P ts ds := DataW.weights_mem_each ht hd _ (by
      simp only [DataW.weights, hu]
      refine DataW.weights_mem_each (j := i) (t := f.type) (d := xs[i].1) ?_ ?_ _ ?_
      · have := hf
        simp only [List.getElem?_map, Array.getElem?_toList, this, Option.map_some]
      · simp only [List.getElem?_map, hy, Option.map_some]
      · rw [h2]; simp only [DataW.weights, he, List.length_map]; exact List.mem_cons_self ..)
    have hle := List.all_eq_true.1 h _ hm
    have hle' : (elems.length + rest.length) * P.bytesOf e ≤ reachBytes := by simpa using hle
    exact Nat.le_trans (Nat.mul_le_mul_right _ (by omega)) hle'
end Go.Proofs.Ytacgeafjilipdaa.P
namespace Go.Proofs.Ytacgeafjilipdaa.P
def headSigns : List Char := List.map Char.ofNat [104, 97, 114, 110, 101, 115, 115, 32, 97, 50, 97, 99, 52, 56, 53, 53, 54, 101, 54, 52, 97, 51, 49, 101, 54, 54, 98, 55, 102, 55, 97, 51, 54, 49, 102, 100, 52, 100, 51, 54, 55, 57, 100, 102, 98, 49, 97, 57, 53, 50, 101, 57, 54, 51, 55, 99, 57, 57, 56, 52, 48, 101, 100, 50, 99, 98, 97, 100, 54, 54, 50, 100, 32, 99, 117, 116, 32, 97, 116, 32, 116, 105, 100, 101, 112, 111, 108, 101, 47, 116, 105, 100, 101, 112, 111, 108, 101, 108, 97, 119, 48, 55, 46, 80, 97, 105, 114, 115, 85, 110, 122, 105, 112, 32, 116, 105, 100, 101, 112, 111, 108, 101, 47, 116, 105, 100, 101, 112, 111, 108, 101, 108, 97, 119, 48, 55, 46, 80, 97, 105, 114, 115, 70, 105, 110, 100, 115, 32, 116, 105, 100, 101, 112, 111, 108, 101, 47, 116, 105, 100, 101, 112, 111, 108, 101, 108, 97, 119, 48, 55, 46, 80, 97, 105, 114, 115, 77, 101, 114, 103, 101, 32, 116, 105, 100, 101, 112, 111, 108, 101, 47, 116, 105, 100, 101, 112, 111, 108, 101, 108, 97, 119, 48, 55, 46, 80, 97, 105, 114, 115, 90, 105, 112, 32, 116, 105, 100, 101, 112, 111, 108, 101, 47, 116, 105, 100, 101, 112, 111, 108, 101, 108, 97, 119, 48, 55, 46, 80, 97, 105, 114, 115, 68, 101, 108, 116, 97, 115, 32, 116, 105, 100, 101, 112, 111, 108, 101, 47, 116, 105, 100, 101, 112, 111, 108, 101, 108, 97, 119, 49, 49, 46, 82, 101, 115, 101, 116, 73, 110, 116, 115, 32, 116, 105, 100, 101, 112, 111, 108, 101, 47, 116, 105, 100, 101, 112, 111, 108, 101, 108, 97, 119, 49, 49, 46, 82, 101, 115, 101, 116, 70, 108, 111, 97, 116, 115, 32, 116, 105, 100, 101, 112, 111, 108, 101, 47, 116, 105, 100, 101, 112, 111, 108, 101, 108, 97, 119, 49, 49, 46, 82, 101, 115, 101, 116, 78, 97, 109, 101, 115, 32, 116, 105, 100, 101, 112, 111, 108, 101, 47, 116, 105, 100, 101, 112, 111, 108, 101, 108, 97, 119, 49, 49, 46, 82, 101, 115, 101, 116, 71, 111, 101, 115, 32, 116, 105, 100, 101, 112, 111, 108, 101, 47, 116, 105, 100, 101, 112, 111, 108, 101, 108, 97, 119, 49, 49, 46, 82, 101, 115, 101, 116, 66, 111, 116, 104, 32, 116, 105, 100, 101, 112, 111, 108, 101, 47, 116, 105, 100, 101, 112, 111, 108, 101, 108, 97, 119, 48, 57, 46, 72, 105, 115, 116, 67, 104, 101, 99, 107, 115, 32, 116, 105, 100, 101, 112, 111, 108, 101, 47, 116, 105, 100, 101, 112, 111, 108, 101, 108, 97, 119, 48, 57, 46, 72, 105, 115, 116, 80, 97, 105, 114, 115, 32, 116, 105, 100, 101, 112, 111, 108, 101, 47, 116, 105, 100, 101, 112, 111, 108, 101, 108, 97, 119, 48, 57, 46, 72, 105, 115, 116, 69, 113, 117, 97, 108, 32, 116, 105, 100, 101, 112, 111, 108, 101, 47, 116, 105, 100, 101, 112, 111, 108, 101, 108, 97, 119, 48, 57, 46, 72, 105, 115, 116, 79, 118, 101, 114, 32, 116, 105, 100, 101, 112, 111, 108, 101, 47, 116, 105, 100, 101, 112, 111, 108, 101, 108, 97, 119, 48, 57, 46, 72, 105, 115, 116, 77, 97, 107, 101, 115, 32, 116, 105, 100, 101, 112, 111, 108, 101, 47, 116, 105, 100, 101, 112, 111, 108, 101, 108, 97, 119, 48, 57, 46, 72, 105, 115, 116, 67, 97, 110, 111, 110, 32, 116, 105, 100, 101, 112, 111, 108, 101, 47, 116, 105, 100, 101, 112, 111, 108, 101, 108, 97, 119, 48, 57, 46, 72, 105, 115, 116, 87, 97, 108, 107, 115, 32, 116, 105, 100, 101, 112, 111, 108, 101, 47, 116, 105, 100, 101, 112, 111, 108, 101, 108, 97, 119, 49, 49, 46, 82, 101, 115, 101, 116, 76, 97, 121, 115, 32, 116, 105, 100, 101, 112, 111, 108, 101, 47, 116, 105, 100, 101, 112, 111, 108, 101, 108, 97, 119, 49, 48, 46, 70, 104, 105, 115, 116, 67, 104, 101, 99, 107, 115, 32, 116, 105, 100, 101, 112, 111, 108, 101, 47, 116, 105, 100, 101, 112, 111, 108, 101, 108, 97, 119, 49, 48, 46, 70, 104, 105, 115, 116, 80, 97, 105, 114, 115, 32, 116, 105, 100, 101, 112, 111, 108, 101, 47, 116, 105, 100, 101, 112, 111, 108, 101, 108, 97, 119, 49, 48, 46, 70, 104, 105, 115, 116, 69, 113, 117, 97, 108, 32, 116, 105, 100, 101, 112, 111, 108, 101, 47, 116, 105, 100, 101, 112, 111, 108, 101, 108, 97, 119, 49, 48, 46, 70, 104, 105, 115, 116, 79, 118, 101, 114, 32, 116, 105, 100, 101, 112, 111, 108, 101, 47, 116, 105, 100, 101, 112, 111, 108, 101, 108, 97, 119, 49, 48, 46, 70, 104, 105, 115, 116, 70, 108, 111, 97, 116, 115, 32, 116, 105, 100, 101, 112, 111, 108, 101, 47, 116, 105, 100, 101, 112, 111, 108, 101, 108, 97, 119, 49, 48, 46, 70, 104, 105, 115, 116, 77, 97, 107, 101, 115, 32, 116, 105, 100, 101, 112, 111, 108, 101, 47, 116, 105, 100, 101, 112, 111, 108, 101, 108, 97, 119, 49, 48, 46, 70, 104, 105, 115, 116, 67, 97, 110, 111, 110, 32, 116, 105, 100, 101, 112, 111, 108, 101, 47, 116, 105, 100, 101, 112, 111, 108, 101, 108, 97, 119, 49, 48, 46, 70, 104, 105, 115, 116, 66, 97, 99, 107, 32, 116, 105, 100, 101, 112, 111, 108, 101, 47, 116, 105, 100, 101, 112, 111, 108, 101, 108, 97, 119, 49, 48, 46, 70, 104, 105, 115, 116, 70, 114, 111, 109]
theorem head_is : Try.prog.initOrder = String.ofList headSigns := by kernel_rfl
theorem head_signs : Try.prog.initOrder.toList = headSigns := by rw [head_is]; exact String.toList_ofList
theorem head_first : (behindMainWord (wordsSigns headSigns)).head? = some "cut".toList := by kernel_rfl
theorem head_words : ∃ r, behindMainWord (wordsSigns headSigns) = "cut".toList :: r := by have h := head_first; cases h2 : behindMainWord (wordsSigns headSigns) with | nil => rw [h2] at h; cases h | cons c r => rw [h2] at h; injection h with h; exact ⟨r, by rw [h]⟩
theorem strip_cut (r : List (List Char)) : stripLifts liftWords ("cut".toList :: r) = ([], "cut".toList :: r) := by kernel_rfl
theorem head_lifts : Try.prog.headLifts = [] := by obtain ⟨r, hr⟩ := head_words; unfold Program.headLifts; rw [head_signs, hr, strip_cut]; kernel_rfl
theorem head_doorFits : Try.prog.doorFits [] = true := by kernel_rfl
theorem head_laysLater : Try.prog.laysLater = false := by kernel_rfl
theorem head_bearsReflect : Try.prog.bearsReflect = false := by kernel_rfl
theorem mayEnter_of {P : Program} {L : List Char} {r : List (List Char)} (h1 : P.initOrder.toList = L) (h2 : behindMainWord (wordsSigns L) = "cut".toList :: r) (h3 : P.doorFits [] = true) (h4 : P.laysLater = false) (h5 : P.bearsReflect = false) : P.mayEnter = true := by unfold Program.mayEnter; rw [h1, h2]; simp only [strip_cut, h3, h4, h5]; kernel_rfl
theorem head_mayEnter : Try.prog.mayEnter = true := by obtain ⟨r, hr⟩ := head_words; exact mayEnter_of head_signs hr head_doorFits head_laysLater head_bearsReflect
theorem head_liftsFinal : Try.prog.liftsFinal = false := by obtain ⟨r, hr⟩ := head_words; unfold Program.liftsFinal; rw [head_signs, head_lifts, hr]; kernel_rfl
theorem make_of {P : Program} {L : List Char} {r : List (List Char)} (h1 : P.initOrder.toList = L) (h2 : behindMainWord (wordsSigns L) = "cut".toList :: r) : P.make = some .cut := by unfold Program.make; rw [h1, h2]; kernel_rfl
theorem head_make : Try.prog.make = some .cut := by obtain ⟨r, hr⟩ := head_words; exact make_of head_signs hr
theorem head_laidOut : laidOutB Try.prog = true := by kernel_rfl
theorem head_mapsRowed : mapsRowed Try.prog = true := by kernel_rfl
theorem head_stops : (Try.prog.stops == []) = true := by kernel_rfl
theorem head_stopKnobs : (Try.prog.stopKnobs == []) = true := by kernel_rfl
theorem head_plainKeys : Try.prog.plainKeys = true := by kernel_rfl
theorem head_stopsHeard : Try.prog.stopsHeard = true := by kernel_rfl
end Go.Proofs.Ytacgeafjilipdaa.P
namespace Go.Proofs.Ytacgeafjilipdaa.Pure
open Go.RowKit Go.Proofs.Ytacgeafjilipdaa.P Go.Proofs.YtacgeafjilipdaaW.PrintWords
theorem FhistMakes : ∀ (x0 : S79) (x1 : List (S123)) (x2 : List (S123)), wf79 x0 → (fun xs_ => ∀ x_ ∈ xs_, wf123 x_) x1 → (fun xs_ => ∀ x_ ∈ xs_, wf123 x_) x2 → x0.f5.length < 8796093022208 → x0.f6.length < 8796093022208 → tidepolelaw10_FhistMakes.f x0.f0 x0.f1 x0.f2 x0.f3 x0.f4 x0.f5 x0.f6 x0.f7 x0.f8 x1 x2 = some true := fun _ _ _ h0 h1 h2 h3 h4 => if_pos ⟨wfG_of h0, wfPus_of h1, wfPus_of h2, h3, h4⟩
end Go.Proofs.Ytacgeafjilipdaa.Pure
namespace Go.Proofs.Ytacgeafjilipdaa.fhistMakes
open Go.ChangeShapes Go.WideShapes Go.ChangeAt Go.RowKit Go.Proofs.Ytacgeafjilipdaa.P Go.Proofs.YtacgeafjilipdaaW.PrintWords
set_option linter.unusedVariables false
theorem own : ownKnob Try.prog.godebug = none := by kernel_rfl
theorem laidOut : laidOutB Try.prog = true := by kernel_rfl
set_option maxRecDepth 100000 in
set_option maxHeartbeats 4000000 in
theorem lifted (os : Os) (started : os.Started) (H : Type) (enc : TypeId × Value → H) :
    ReturnsInHanded {} Try.checked os 26 .any (Rows.fhistMakesSpec.pre6 enc Try.prog Try.f26 Rows.fhistMakesRow.domain false) (Rows.fhistMakesSpec.post enc Try.prog Try.f26 false true false false) := by
  refine returnsInHanded_of_change_sized (C := Try.checked) own started (by kernel_rfl) Try.func26
    (ChangeSpec.witness6 (enc := enc) (C := Try.checked) false ⟨#[], #[.agg #[.int .i64 0, .int .u64 0, .int .u64 0, .int .u64 0, .int .u64 0, .slice none 0 0, .slice none 0 0, .slice none 0 0, .slice none 0 0], .slice none 0 0, .slice none 0 0], []⟩ 8 (by kernel_rfl) (by kernel_rfl) (by kernel_rfl) (by kernel_rfl)) ?_
  intro W base args ds gs before hval0 hW hcnd hsz0 _
  have hval : ∀ (j : Nat) t v, Try.f26.params[j]? = some t → args[j]? = some v → Value.okWide Try.prog W .any base t v := hval0
  have hW' := hW
  obtain ⟨p, q, hA0, hV, rfl, hfz, hnd⟩ := hW
  have hA : DataW.TrodAll enc Try.prog W 0 (fun _ => true) true Try.f26.params.toList args.toList ds p := hA0
  rw [Try.params26] at hA hval
  obtain ⟨v0, vs0, d0, ds0, p0, q0, hargs, rfl, rfl, h0, r0⟩ := trodAll_cons hA
  obtain ⟨v1, vs1, d1, ds1, p1, q1, rfl, rfl, rfl, h1, r1⟩ := trodAll_cons r0
  obtain ⟨v2, vs2, d2, ds2, p2, q2, rfl, rfl, rfl, h2, r2⟩ := trodAll_cons r1
  obtain ⟨rfl, rfl, rfl⟩ := trodAll_nil r2
  obtain rfl : args = #[v0, v1, v2] := by cases args; simp_all
  obtain ⟨rfl, rfl⟩ := trodVars_none hV
  have k0 := h0
  have lt0 : ∀ x ∈ p0, x.block < W.heap.size := by obtain ⟨m, hm⟩ := k0; exact DataW.trod_lt m _ _ _ hm
  obtain ⟨fu0, hf0⟩ := h0
  obtain ⟨x0, hK0, w0⟩ := opens79 enc W 0 _ true fu0 _ _ hf0
  obtain ⟨cs0, rfl, _⟩ := okWide_struct Try.underlying79 (hval 0 79 v0 rfl rfl)
  obtain ⟨A0_5, c0_5, A0_6, c0_6, A0_7, c0_7, A0_8, c0_8, he0, h0_5_l, hC0_5, h0_6_l, hC0_6, h0_7_l, hC0_7, h0_8_l, hC0_8⟩ := k79_open hK0
  obtain rfl : cs0 = #[.int .i64 x0.f0, .int .u64 x0.f1, .int .u64 x0.f2, .int .u64 x0.f3, .int .u64 x0.f4, .slice A0_5 x0.f5.length c0_5, .slice A0_6 x0.f6.length c0_6, .slice A0_7 x0.f7.length c0_7, .slice A0_8 x0.f8.length c0_8] := by
    have he : cs0.toList = _ := he0
    exact Array.toList_inj.1 he
  have k1 := h1
  have lt1 : ∀ x ∈ p1, x.block < W.heap.size := by obtain ⟨m, hm⟩ := k1; exact DataW.trod_lt m _ _ _ hm
  obtain ⟨fu1, hf1⟩ := h1
  obtain ⟨x1, hK1, w1⟩ := (opens_slice (d := k123) Try.underlying119 (by kernel_rfl) opens123) enc W 0 _ true fu1 _ _ hf1
  obtain ⟨va1, vl1, vc1, rfl⟩ := okWide_slice Try.underlying119 (hval 1 119 v1 rfl rfl)
  obtain ⟨A1, c1, he1, h1_l, hC1⟩ := hK1
  simp [Value.cells] at he1
  obtain ⟨rfl, rfl, rfl⟩ := he1
  have k2 := h2
  have lt2 : ∀ x ∈ p2, x.block < W.heap.size := by obtain ⟨m, hm⟩ := k2; exact DataW.trod_lt m _ _ _ hm
  obtain ⟨fu2, hf2⟩ := h2
  obtain ⟨x2, hK2, w2⟩ := (opens_slice (d := k123) Try.underlying119 (by kernel_rfl) opens123) enc W 0 _ true fu2 _ _ hf2
  obtain ⟨va2, vl2, vc2, rfl⟩ := okWide_slice Try.underlying119 (hval 2 119 v2 rfl rfl)
  obtain ⟨A2, c2, he2, h2_l, hC2⟩ := hK2
  simp [Value.cells] at he2
  obtain ⟨rfl, rfl, rfl⟩ := he2
  have g5 : x0.f5.length < 8796093022208 := by
    have h_ : x0.f5.length * Try.prog.bytesOf 144 ≤ reachBytes := P.sized_field (j := 0) (i := 5) hsz0 rfl rfl Try.underlying79 hf0 rfl Try.underlying27 (A := A0_5) (c := c0_5) rfl
    rw [show Try.prog.bytesOf 144 = 16 from by kernel_rfl, show reachBytes = 140737488351232 from rfl] at h_
    omega
  have g6 : x0.f6.length < 8796093022208 := by
    have h_ : x0.f6.length * Try.prog.bytesOf 144 ≤ reachBytes := P.sized_field (j := 0) (i := 6) hsz0 rfl rfl Try.underlying79 hf0 rfl Try.underlying27 (A := A0_6) (c := c0_6) rfl
    rw [show Try.prog.bytesOf 144 = 16 from by kernel_rfl, show reachBytes = 140737488351232 from rfl] at h_
    omega
  clear hA0 hval0 hsz0
  obtain hk := Pure.FhistMakes x0 x1 x2 w0 w1 w2 g5 g6
  refine (P.tidepolelaw10_FhistMakes.calls x0.f0 x0.f1 x0.f2 x0.f3 x0.f4 A0_5 c0_5 x0.f5 A0_6 c0_6 x0.f6 A0_7 c0_7 x0.f7 A0_8 c0_8 x0.f8 va1 vc1 x1 va2 vc2 x2 true W hC0_5 h0_5_l hC0_6 h0_6_l hC0_7 h0_7_l hC0_8 h0_8_l hC1 h1_l hC2 h2_l hk).mono fun e W' ⟨he, bel⟩ => ?_
  subst he
  exact ⟨_, rfl, _, _, _, [], _, [], hW', trodAll_mk1 (shut_bool Try.underlying4 _), (trodAll_cons_mk (Below.trod laidOut (by kernel_rfl) (of_decide_eq_true (by kernel_rfl)) k0 bel lt0) (trodAll_cons_mk (Below.trod laidOut (by kernel_rfl) (of_decide_eq_true (by kernel_rfl)) k1 bel lt1) (trodAll_cons_mk (Below.trod laidOut (by kernel_rfl) (of_decide_eq_true (by kernel_rfl)) k2 bel lt2) trodAll_mk0))), rfl, bel.frame _, fun h => by cases h⟩
theorem cf0 : (Rows.fhistMakesRow.wf (OpenSpec.ofChange Rows.fhistMakesSpec)) = true := by kernel_rfl
theorem cf1 : (laidOutB Try.prog) = true := P.head_laidOut
theorem cf2 : (mapsRowed Try.prog) = true := P.head_mapsRowed
theorem cf3 : (Try.f26.params.all (Try.prog.readableRec ·)) = true := by kernel_rfl
theorem cf4 : (namedTie Try.prog Rows.fhistMakesRow.named Rows.fhistMakesSpec.vars) = true := by kernel_rfl
theorem cf5 : ((Rows.fhistMakesRow.stops == [])) = true := by kernel_rfl
theorem cf6 : ((Try.prog.stops == [])) = true := P.head_stops
theorem cf7 : ((Rows.fhistMakesRow.knobs == [])) = true := by kernel_rfl
theorem cf8 : ((Try.prog.stopKnobs == [])) = true := P.head_stopKnobs
theorem cf9 : ((Rows.fhistMakesRow.inPlace == Try.prog.inPlace 26)) = true := by kernel_rfl
theorem cf10 : ((Rows.fhistMakesRow.unfollowed == Try.prog.unfollowed 26)) = true := by kernel_rfl
theorem cf11 : ((Rows.fhistMakesRow.recurses == Try.prog.recurses 26)) = true := by kernel_rfl
theorem cf12 : ((Rows.fhistMakesRow.named == Try.prog.varsNamed 26)) = true := by kernel_rfl
theorem cf13 : ((Rows.fhistMakesRow.maps == (Try.f26.params.toList ++ Rows.fhistMakesSpec.plain.varTypes Try.prog).any (Try.prog.mapsRec ·))) = true := by kernel_rfl
theorem cf14 : ((Rows.fhistMakesRow.ifaces == (Try.f26.params.toList ++ Rows.fhistMakesSpec.plain.varTypes Try.prog).any (Try.prog.ifacesRec ·))) = true := by kernel_rfl
theorem cf15 : ((Rows.fhistMakesRow.mapsOut == Try.prog.mapsAmong Try.f26.resultTypes.toList)) = true := by kernel_rfl
theorem cf16 : ((Rows.fhistMakesRow.loops == (Try.f26.params.toList ++ Rows.fhistMakesSpec.plain.varTypes Try.prog).any (Try.prog.loopsFrom ·))) = true := by kernel_rfl
theorem cf17 : ((Rows.fhistMakesRow.wideKeys == (Try.f26.params.toList ++ Rows.fhistMakesSpec.plain.varTypes Try.prog ++ Try.f26.resultTypes.toList).any (Try.prog.wideKeysFrom ·))) = true := by kernel_rfl
theorem cf18 : (Rows.fhistMakesSpec.vars.all (Try.prog.varReadable ·)) = true := by kernel_rfl
theorem cf19 : (Try.f26.resultTypes.all (fun t => Try.prog.readableRec t && decide (t < Try.prog.types.size))) = true := by kernel_rfl
theorem cf20 : ((Rows.fhistMakesRow.ifacesOut == Try.f26.resultTypes.toList.any (Try.prog.ifacesRec ·))) = true := by kernel_rfl
theorem cf21 : ((Rows.fhistMakesRow.loopsOut == Try.f26.resultTypes.toList.any (Try.prog.loopsFrom ·))) = true := by kernel_rfl
theorem cf22 : ((Rows.fhistMakesRow.plainKeys == Try.prog.plainKeys)) = true := by rw [P.head_plainKeys]; kernel_rfl
theorem cf23 : (Rows.fhistMakesRow.shortTexts.isNone) = true := by kernel_rfl
theorem cf24 : (Try.prog.stopsHeard) = true := P.head_stopsHeard
theorem cf25 : (Try.prog.mayEnter) = true := P.head_mayEnter
theorem cf26 : ((Rows.fhistMakesRow.lifted == Try.prog.liftsFinal)) = true := by rw [P.head_liftsFinal]; kernel_rfl
theorem cf27 : ((Try.prog.make == some Rows.fhistMakesRow.make)) = true := by rw [P.head_make]; kernel_rfl
theorem cf28 : ((Rows.fhistMakesRow.kinds == (if Rows.fhistMakesRow.domain.isEmpty then [] else Try.f26.params.toList.map fun t => match Try.prog.underlying t with | some (.int k) => some k | _ => none))) = true := by kernel_rfl
theorem cf29 : ((Rows.fhistMakesRow.pinned == Rows.fhistMakesRow.pinnedBy)) = true := by kernel_rfl
theorem cf30 : ((Rows.fhistMakesRow.veiled == (Try.f26.params.toList ++ Rows.fhistMakesSpec.plain.varTypes Try.prog ++ Try.f26.resultTypes.toList).any (Try.prog.veiledRec ·))) = true := by kernel_rfl
theorem cf31 : (Rows.fhistMakesRow.veiledFits Try.prog Try.f26.params.toList (Try.f26.params.toList ++ Rows.fhistMakesSpec.plain.varTypes Try.prog ++ Try.f26.resultTypes.toList)) = true := by kernel_rfl
theorem band_mk {a b : Bool} (h : a = true) (k : b = true) : (a && b) = true := by rw [h, k]; rfl
theorem closed : joinedFacts Try.prog 26 Try.f26 Rows.fhistMakesSpec Rows.fhistMakesRow = true := by unfold joinedFacts; exact (band_mk (band_mk (band_mk (band_mk (band_mk (band_mk (band_mk (band_mk (band_mk (band_mk (band_mk (band_mk (band_mk (band_mk (band_mk (band_mk (band_mk (band_mk (band_mk (band_mk (band_mk (band_mk (band_mk (band_mk (band_mk (band_mk (band_mk (band_mk (band_mk (band_mk (band_mk cf0 cf1) cf2) cf3) cf4) cf5) cf6) cf7) cf8) cf9) cf10) cf11) cf12) cf13) cf14) cf15) cf16) cf17) cf18) cf19) cf20) cf21) cf22) cf23) cf24) cf25) cf26) cf27) (by kernel_rfl)) cf29) cf30) cf31)
theorem over : Rows.fhistMakesRow.holds Try.pinned (OpenSpec.ofChange Rows.fhistMakesSpec) :=
  OpenClaim.holds_of_wide 26 Try.f26 rfl rfl rfl rfl rfl rfl rfl ⟨rfl, rfl, rfl, rfl, rfl⟩ rfl rfl rfl rfl rfl (by kernel_rfl) Try.func26 closed
    (of_decide_eq_true (by kernel_rfl)) (by unfold Func.isWrapper; first | (rw [if_pos (by decide +kernel)]; kernel_rfl) | (rw [if_neg (by decide +kernel)]; exact ⟨rfl, rfl⟩))
    (fun os started H enc _ => lifted os started H enc)
theorem proved : Rows.FhistMakesSaid := over
#print axioms proved
end Go.Proofs.Ytacgeafjilipdaa.fhistMakes
namespace Go.Proofs.Ytacgeafjilipdaa
theorem fhistMakes_holds : Rows.FhistMakesSaid := fhistMakes.proved
end Go.Proofs.Ytacgeafjilipdaa
