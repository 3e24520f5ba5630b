/- LabelsParses: the part that this text bears of the proof that the statement answers true for every input. No condition. -/
import Derived.Test.YtbfiacnmielajaaProg
import Derived.Below
import Derived.Deep.Draws
import Derived.Deep.AppendLies
import Derived.Maps.AppendAt
import Derived.OwnWalk
import Derived.Laws.BytesArg
import Derived.Laws.MakeOwn
import Derived.Laws.OwnMore
import Derived.Deep.OwnRows
import Derived.Tactics
import Derived.Lib.ConvBytes
import Derived.Laws.Slices
import Derived.WalkKit
import Derived.KernelRfl
import Derived.RowKit3
import Derived.Deep.LoopGhost
import Derived.Deep.QuietTactic
import Derived.BigQuiet
import Derived.WideLaws
import Derived.Deep.DeepCutAuto
import Derived.Deep.CutBlock
import Derived.Deep.RegionHeld3
import Derived.Laws.Rows
import Derived.Lib.AppendStr
import Derived.ArgAppend
import Derived.Laws.IdiomCopy
import Derived.OrdersHeld
import Derived.Laws.BitsLemmas
import Derived.RowKit
import Derived.Laws.Strings
import Derived.Laws.Cover1
import Derived.Shelf.Lays
import Derived.Shelf.Strings.Builder1
import Derived.Shelf.Strings.OnBuilder
import Derived.DataReads
import Derived.RegionTactic
import Derived.ChangeKeysEq
import Derived.ChangeAlike
import Derived.BigRegion
import Derived.StillTailTactics
import Derived.Shelf.Strings.Search3
import Derived.Shelf.Small.Strs
import Derived.Deep.Slices
import Derived.ChangeArms
import Derived.ProofKit
import Derived.JoinedOf
import Derived.OpenShut
import Derived.ShutString
import Derived.ChangeOld
import Derived.SizedLaws
import Derived.Test.YtbfiacnmielajaaQLabelsParsesWWords
import Derived.Test.YtbfiacnmielajaaQLabelsParsesWLast
import Derived.Test.YtbfiacnmielajaaQLabelsParsesWTab
import Derived.Test.YtbfiacnmielajaaQLabelsParsesWFour
import Derived.Test.YtbfiacnmielajaaQLabelsParsesWQPut
import Derived.Test.YtbfiacnmielajaaQLabelsParsesWApart
import Derived.Test.YtbfiacnmielajaaQLabelsParsesWArr
import Derived.Test.YtbfiacnmielajaaQLabelsParsesWZeros
import Derived.Test.YtbfiacnmielajaaQLabelsParsesWFoot
import Derived.Test.YtbfiacnmielajaaQLabelsParsesWKept
import Derived.Test.YtbfiacnmielajaaQLabelsParsesWShare
import Derived.Test.YtbfiacnmielajaaQLabelsParsesWN
import Derived.Test.YtbfiacnmielajaaQLabelsParsesWFootNe
import Derived.Test.YtbfiacnmielajaaQLabelsParsesWAt
import Derived.Test.YtbfiacnmielajaaQLabelsParsesWEqStruct
import Derived.Test.YtbfiacnmielajaaQLabelsParsesWRepsOne
import Derived.Test.YtbfiacnmielajaaQLabelsParsesWInv
import Derived.Test.YtbfiacnmielajaaQLabelsParsesWInvWords
import Derived.Test.YtbfiacnmielajaaQLabelsParsesWGuard
import Derived.Test.YtbfiacnmielajaaQLabelsParsesWNEv
import Derived.Test.YtbfiacnmielajaaQLabelsParsesWMore
import Derived.Test.YtbfiacnmielajaaRows
import Derived.Test.YtbfiacnmielajaaQLabelsParses0
import Derived.Test.YtbfiacnmielajaaQLabelsParses1
namespace Go.Proofs.Ytbfiacnmielajaa.P
open Go.RowKit Go.Proofs.YtbfiacnmielajaaW.PrintWords Go.Proofs.YtbfiacnmielajaaW.PrintLast Go.Proofs.YtbfiacnmielajaaW.PrintMore
attribute [local go_sem] max2_int min2_int max_two min_two max_three min_three max_four min_four
set_option linter.unusedVariables false
set_option linter.unusedSimpArgs false
attribute [local go_sem high] leq_str gtr_str
mutual
def tidepolelaw30_LabelsParses.j0 : Nat → ByteArray → List (S58) → Int → List (S42) → Int → Bool → Option (Bool)
 | 0, _, _, _, _, _, _ => none
 | k + 1, x0, x3, x4, x5, x6, x46 => if x46 = true then (some false) else (if x6 = 0 then ((tidepolelaw30_refs.f k x5).bind fun t110 => ((tidepoleref30_Check.f k t110 0).bind fun t113 => (if t113 = 0 then ((tidepolelaw30_refs.f k x5).bind fun t114 => ((tidepoleref30_Text.f t114).bind fun t117 => (tidepolelaw30_LabelsParses.j1 k x0 x3 x4 x5 x6 (t117.toList != x0.toList)))) else (tidepolelaw30_LabelsParses.j1 k x0 x3 x4 x5 x6 true)))) else (tidepolelaw30_LabelsParses.j1 k x0 x3 x4 x5 x6 false))
def tidepolelaw30_LabelsParses.j1 : Nat → ByteArray → List (S58) → Int → List (S42) → Int → Bool → Option (Bool)
 | 0, _, _, _, _, _, _ => none
 | k + 1, x0, x3, x4, x5, x6, x61 => if x61 = true then (some false) else (if x4 = 0 then (if x6 = 0 then ((tidepolelaw30_ref.f k x3).bind fun t118 => ((tidepoleref30_Check.f k t118 1).bind fun t121 => (if t121 = 0 then ((tidepolelaw30_ref.f k x3).bind fun t122 => ((tidepoleref30_Text.f t122).bind fun t125 => (if t125.toList = x0.toList then ((tidepolelaw30_awake.f).bind fun t126 => (some t126)) else (some false)))) else (some false)))) else (some false)) else (if x6 = 0 then ((tidepolelaw30_refs.f k x5).bind fun t127 => ((tidepoleref30_Check.f k t127 1).bind fun t130 => (tidepolelaw30_LabelsParses.j2 k x5 (t130 == 0)))) else (tidepolelaw30_LabelsParses.j2 k x5 false)))
def tidepolelaw30_LabelsParses.j2 : Nat → List (S42) → Bool → Option (Bool)
 | 0, _, _ => none
 | k + 1, x5, x89 => if x89 = true then (tidepolelaw30_LabelsParses.l0 k x5 (x5.length : Int) 0) else ((tidepolelaw30_awake.f).bind fun t134 => (some t134))
def tidepolelaw30_LabelsParses.l0 : Nat → List (S42) → Int → Int → Option (Bool)
 | 0, _, _, _ => none
 | k + 1, x90, x91, x92 => if x92 < x91 then (if 0 ≤ x92 then (if x92 < (x90.length : Int) then (if ((rd_T42 x90 x92).f0) = 0 then (tidepolelaw30_LabelsParses.l0 k x90 x91 (wrap64 (x92 + 1))) else ((tidepolelaw30_awake.f).bind fun t133 => (some t133))) else (none)) else (none)) else (some false)
end
def tidepolelaw30_LabelsParses.f (k : Nat) (a0 : ByteArray) : Option (Bool) := if (a0.size : Int) > 2000 then ((tidepolelaw30_awake.f).bind fun t101 => (some t101)) else ((labels_Parse.f k a0).bind fun bt102 => ((labels_ParseMatchers.f a0).bind fun bt106 => (if bt102.2 = 0 then (if bt106.2 = 0 then (tidepolelaw30_LabelsParses.j0 k a0 bt102.1 bt102.2 bt106.1 bt106.2 false) else (if bt106.2 = 10 then (tidepolelaw30_LabelsParses.j0 k a0 bt102.1 bt102.2 bt106.1 bt106.2 ((bt106.1.length : Int) != 0)) else (tidepolelaw30_LabelsParses.j0 k a0 bt102.1 bt102.2 bt106.1 bt106.2 true))) else (if bt102.2 = 10 then (if (bt102.1.length : Int) = 0 then (if bt106.2 = 0 then (tidepolelaw30_LabelsParses.j0 k a0 bt102.1 bt102.2 bt106.1 bt106.2 false) else (if bt106.2 = 10 then (tidepolelaw30_LabelsParses.j0 k a0 bt102.1 bt102.2 bt106.1 bt106.2 ((bt106.1.length : Int) != 0)) else (tidepolelaw30_LabelsParses.j0 k a0 bt102.1 bt102.2 bt106.1 bt106.2 true))) else (tidepolelaw30_LabelsParses.j0 k a0 bt102.1 bt102.2 bt106.1 bt106.2 true)) else (tidepolelaw30_LabelsParses.j0 k a0 bt102.1 bt102.2 bt106.1 bt106.2 true)))))
set_option maxHeartbeats 8000000 in
set_option maxRecDepth 100000 in
theorem tidepolelaw30_LabelsParses.calls (k : Nat) (a0 : ByteArray) (r : Bool) (w : World) (h : tidepolelaw30_LabelsParses.f k a0 = some r) :
  Calls Try.prog 4 #[.string a0] w fun e w' => e = .returned (.bool r) ∧ Below w.heap.size w w' := by
 have hu42 := Try.underlying42
 have HB := Aside0.mk (Below.refl w.heap.size w)
 have H : (if (a0.size : Int) > 2000 then ((tidepolelaw30_awake.f).bind fun t101 => (some t101)) else ((labels_Parse.f k a0).bind fun bt102 => ((labels_ParseMatchers.f a0).bind fun bt106 => (if bt102.2 = 0 then (if bt106.2 = 0 then (tidepolelaw30_LabelsParses.j0 k a0 bt102.1 bt102.2 bt106.1 bt106.2 false) else (if bt106.2 = 10 then (tidepolelaw30_LabelsParses.j0 k a0 bt102.1 bt102.2 bt106.1 bt106.2 ((bt106.1.length : Int) != 0)) else (tidepolelaw30_LabelsParses.j0 k a0 bt102.1 bt102.2 bt106.1 bt106.2 true))) else (if bt102.2 = 10 then (if (bt102.1.length : Int) = 0 then (if bt106.2 = 0 then (tidepolelaw30_LabelsParses.j0 k a0 bt102.1 bt102.2 bt106.1 bt106.2 false) else (if bt106.2 = 10 then (tidepolelaw30_LabelsParses.j0 k a0 bt102.1 bt102.2 bt106.1 bt106.2 ((bt106.1.length : Int) != 0)) else (tidepolelaw30_LabelsParses.j0 k a0 bt102.1 bt102.2 bt106.1 bt106.2 true))) else (tidepolelaw30_LabelsParses.j0 k a0 bt102.1 bt102.2 bt106.1 bt106.2 true)) else (tidepolelaw30_LabelsParses.j0 k a0 bt102.1 bt102.2 bt106.1 bt106.2 true)))))) = some r := h
 clear h
 by_cases c2 : (a0.size : Int) > 2000
 ·rw [if_pos c2] at H
  have c2b0 : decide (2000 < (a0.size : Int)) = true := decide_eq_true c2
  have c2b1 : decide (2000 < a0.size) = true := decide_eq_true (by omega)
  clear c2
  replace H := Option.bind_eq_some_iff.mp H
  obtain ⟨t101, A30, H⟩ := H
  replace H : (some t101) = some r := H
  have A3 := Aside0.mk A30
  clear A30
  obtain rfl := Option.some.inj H
  go_enter Try.func4, Try.ntmps4
  go_wp2_with (first | ((with_reducible refine gate_callee (f := 11) rfl ?_); refine goesL_ (some 12) rfl rfl Try.func11 (by kernel_rfl) rfl #[] rfl (by (try simp only [List.map_toArray, List.map_cons, List.map_nil]); first | done | rfl | (simp only [List.length_drop, List.length_take]; rfl)) ?_; (with_reducible refine (tidepolelaw30_awake.calls  t101 _ A3.out).mono ?_); rintro e w4 ⟨rfl, hb⟩; refine ⟨_, rfl, ?_⟩; have n0_ := Aside0.mk (below_step (by repeat (first | (with_reducible first | exact HB.out | apply below_alloc | apply pw_below_drewN | apply below_drew1) | exact HB.out)) hb); clear HB; have HB := n0_; clear n0_; (try clear hb); (try clear hb2); (try clear hk); (try clear hi); clear A3))
  go_ret
  exact ⟨by first | rfl | (simp [errW_none, errW_some] <;> rfl) | (simp [*, errW_none, errW_some] <;> rfl), by repeat (first | (with_reducible first | exact HB.out | apply below_alloc | apply pw_below_drewN | apply below_drew1) | exact HB.out)⟩
 ·rw [if_neg c2] at H
  have c2b0 : decide (2000 < (a0.size : Int)) = false := decide_eq_false c2
  have c2b1 : decide (2000 < a0.size) = false := decide_eq_false (by omega)
  clear c2
  replace H := Option.bind_eq_some_iff.mp H
  obtain ⟨⟨t102, t103⟩, A50, H⟩ := H
  replace H : ((labels_ParseMatchers.f a0).bind fun bt106 => (if t103 = 0 then (if bt106.2 = 0 then (tidepolelaw30_LabelsParses.j0 k a0 t102 t103 bt106.1 bt106.2 false) else (if bt106.2 = 10 then (tidepolelaw30_LabelsParses.j0 k a0 t102 t103 bt106.1 bt106.2 ((bt106.1.length : Int) != 0)) else (tidepolelaw30_LabelsParses.j0 k a0 t102 t103 bt106.1 bt106.2 true))) else (if t103 = 10 then (if (t102.length : Int) = 0 then (if bt106.2 = 0 then (tidepolelaw30_LabelsParses.j0 k a0 t102 t103 bt106.1 bt106.2 false) else (if bt106.2 = 10 then (tidepolelaw30_LabelsParses.j0 k a0 t102 t103 bt106.1 bt106.2 ((bt106.1.length : Int) != 0)) else (tidepolelaw30_LabelsParses.j0 k a0 t102 t103 bt106.1 bt106.2 true))) else (tidepolelaw30_LabelsParses.j0 k a0 t102 t103 bt106.1 bt106.2 true)) else (tidepolelaw30_LabelsParses.j0 k a0 t102 t103 bt106.1 bt106.2 true)))) = some r := H
  have A5 := Aside0.mk A50
  clear A50
  replace H := Option.bind_eq_some_iff.mp H
  obtain ⟨⟨t106, t107⟩, A60, H⟩ := H
  replace H : (if t103 = 0 then (if t107 = 0 then (tidepolelaw30_LabelsParses.j0 k a0 t102 t103 t106 t107 false) else (if t107 = 10 then (tidepolelaw30_LabelsParses.j0 k a0 t102 t103 t106 t107 ((t106.length : Int) != 0)) else (tidepolelaw30_LabelsParses.j0 k a0 t102 t103 t106 t107 true))) else (if t103 = 10 then (if (t102.length : Int) = 0 then (if t107 = 0 then (tidepolelaw30_LabelsParses.j0 k a0 t102 t103 t106 t107 false) else (if t107 = 10 then (tidepolelaw30_LabelsParses.j0 k a0 t102 t103 t106 t107 ((t106.length : Int) != 0)) else (tidepolelaw30_LabelsParses.j0 k a0 t102 t103 t106 t107 true))) else (tidepolelaw30_LabelsParses.j0 k a0 t102 t103 t106 t107 true)) else (tidepolelaw30_LabelsParses.j0 k a0 t102 t103 t106 t107 true))) = some r := H
  have A6 := Aside0.mk A60
  clear A60
  have HC7 := Aside0.mk H
  clear H
  go_enter Try.func4, Try.ntmps4
  go_upto_region 5 with (first | ((with_reducible refine gate_callee (f := 15) rfl ?_); refine goesL_ (some 15) rfl rfl Try.func15 (by kernel_rfl) rfl #[.string a0] rfl (by (try simp only [List.map_toArray, List.map_cons, List.map_nil]); first | done | rfl | (simp only [List.length_drop, List.length_take]; rfl)) ?_; (with_reducible refine (labels_Parse.calls k a0 t102 t103 _ A5.out).mono ?_); rintro e w8 ⟨v104, rfl, ho0, hb⟩; refine ⟨_, rfl, ?_⟩; have n0_ := Aside0.mk (Kd.R_lower ho0 (below_size (by repeat (first | (with_reducible first | exact HB.out | apply below_alloc | apply pw_below_drewN | apply below_drew1) | exact HB.out)))); have n1_ := Aside0.mk (below_step (by repeat (first | (with_reducible first | exact HB.out | apply below_alloc | apply pw_below_drewN | apply below_drew1) | exact HB.out)) hb); clear HB; have HO105 := n0_; have HB := n1_; clear n0_ n1_; (try clear hb); (try clear hb2); (try clear hk); (try clear hi); (try clear ho0); clear A5) | ((with_reducible refine gate_callee (f := 18) rfl ?_); refine goesL_ (some 20) rfl rfl Try.func18 (by kernel_rfl) rfl #[.string a0] rfl (by (try simp only [List.map_toArray, List.map_cons, List.map_nil]); first | done | rfl | (simp only [List.length_drop, List.length_take]; rfl)) ?_; (with_reducible refine (labels_ParseMatchers.calls a0 t106 t107 _ A6.out).mono ?_); rintro e w9 ⟨v108, rfl, ho0, hb⟩; refine ⟨_, rfl, ?_⟩; have n0_ := Aside0.mk (Kd.R_below (by (with_reducible repeat (first | apply Kd.R_alloc | apply Kd.R_drewN | apply Kd.R_drew)); exact HO105.out) hb); have n1_ := Aside0.mk (Kd.R_lower ho0 (below_size (by repeat (first | (with_reducible first | exact HB.out | apply below_alloc | apply pw_below_drewN | apply below_drew1) | exact HB.out)))); have n2_ := Aside0.mk (below_step (by repeat (first | (with_reducible first | exact HB.out | apply below_alloc | apply pw_below_drewN | apply below_drew1) | exact HB.out)) hb); clear HO105; clear HB; have HO105 := n0_; have HO109 := n1_; have HB := n2_; clear n0_ n1_ n2_; (try clear hb); (try clear hb2); (try clear hk); (try clear hi); (try clear ho0); clear A6))
  (try simp only [Act.put, List.setIfInBounds_toArray, List.set_cons_zero, List.set_cons_succ])
  go_cut [46] (fun v46 wc => ∃ (kq : Nat) (x46_6 : Bool), v46 = .bool x46_6 ∧ Aside0 (tidepolelaw30_LabelsParses.j0 kq a0 t102 t103 t106 t107 x46_6 = some r) ∧ Aside0 (kq ≤ k) ∧ Aside0 (Kd.R k58 58 wc w.heap.size (fun _ => True) v104 t102) ∧ Aside0 (Kd.R k42 42 wc w.heap.size (fun _ => True) v108 t106) ∧ Aside0 (Below w.heap.size w wc))
  case first =>
   have H := HC7.out
   clear HC7
   by_cases c10 : t103 = 0
   ·rw [if_pos c10] at H
    have c10b0 : (t103 == 0) = true := beq_iff_eq.mpr c10
    have c10b1 : (t103 != 0) = false := bne_eq_false_iff_eq.mpr c10
    clear c10
    (first | rw [c10b0] | (simp only [i64_w, i32_w]; rw [c10b0]) | skip)
    by_cases c11 : t107 = 0
    ·rw [if_pos c11] at H
     have c11b0 : (t107 == 0) = true := beq_iff_eq.mpr c11
     have c11b1 : (t107 != 0) = false := bne_eq_false_iff_eq.mpr c11
     clear c11
     have H' := Aside0.mk H
     clear H
     go_wp2
     go_meet
     case rel => exact ⟨_, (false), (by first | rfl | (simp; done) | (simp [*]; done)), H', ⟨by first | omega | exact Nat.le_refl _⟩, ⟨by (with_reducible repeat (first | apply Kd.R_alloc | apply Kd.R_drewN | apply Kd.R_drew)); exact HO105.out⟩, ⟨by (with_reducible repeat (first | apply Kd.R_alloc | apply Kd.R_drewN | apply Kd.R_drew)); exact HO109.out⟩, ⟨by repeat (first | (with_reducible first | exact HB.out | apply below_alloc | apply pw_below_drewN | apply below_drew1) | exact HB.out)⟩⟩
    ·rw [if_neg c11] at H
     have c11b0 : (t107 == 0) = false := beq_eq_false_iff_ne.mpr c11
     have c11b1 : (t107 != 0) = true := bne_iff_ne.mpr c11
     by_cases c12 : t107 = 10
     ·rw [if_pos c12] at H
      have c12b0 : (t107 == 10) = true := beq_iff_eq.mpr c12
      have c12b1 : (t107 != 10) = false := bne_eq_false_iff_eq.mpr c12
      clear c12
      have H' := Aside0.mk H
      clear H
      obtain ⟨Ao13, co13, eo13⟩ := Kd.R_slice HO109.out
      subst eo13
      go_wp2
      go_meet
      case rel => exact ⟨_, (((t106.length : Int) != 0)), (by first | rfl | (simp; done) | (simp [*]; done)), H', ⟨by first | omega | exact Nat.le_refl _⟩, ⟨by (with_reducible repeat (first | apply Kd.R_alloc | apply Kd.R_drewN | apply Kd.R_drew)); exact HO105.out⟩, ⟨by (with_reducible repeat (first | apply Kd.R_alloc | apply Kd.R_drewN | apply Kd.R_drew)); exact HO109.out⟩, ⟨by repeat (first | (with_reducible first | exact HB.out | apply below_alloc | apply pw_below_drewN | apply below_drew1) | exact HB.out)⟩⟩
     ·rw [if_neg c12] at H
      have c12b0 : (t107 == 10) = false := beq_eq_false_iff_ne.mpr c12
      have c12b1 : (t107 != 10) = true := bne_iff_ne.mpr c12
      have H' := Aside0.mk H
      clear H
      go_wp2
      go_meet
      case rel => exact ⟨_, (true), (by first | rfl | (simp; done) | (simp [*]; done)), H', ⟨by first | omega | exact Nat.le_refl _⟩, ⟨by (with_reducible repeat (first | apply Kd.R_alloc | apply Kd.R_drewN | apply Kd.R_drew)); exact HO105.out⟩, ⟨by (with_reducible repeat (first | apply Kd.R_alloc | apply Kd.R_drewN | apply Kd.R_drew)); exact HO109.out⟩, ⟨by repeat (first | (with_reducible first | exact HB.out | apply below_alloc | apply pw_below_drewN | apply below_drew1) | exact HB.out)⟩⟩
   ·rw [if_neg c10] at H
    have c10b0 : (t103 == 0) = false := beq_eq_false_iff_ne.mpr c10
    have c10b1 : (t103 != 0) = true := bne_iff_ne.mpr c10
    (first | rw [c10b0] | (simp only [i64_w, i32_w]; rw [c10b0]) | skip)
    by_cases c14 : t103 = 10
    ·rw [if_pos c14] at H
     have c14b0 : (t103 == 10) = true := beq_iff_eq.mpr c14
     have c14b1 : (t103 != 10) = false := bne_eq_false_iff_eq.mpr c14
     clear c14
     by_cases c15 : (t102.length : Int) = 0
     ·rw [if_pos c15] at H
      have c15b0 : ((t102.length : Int) == 0) = true := beq_iff_eq.mpr c15
      have c15b1 : ((t102.length : Int) != 0) = false := bne_eq_false_iff_eq.mpr c15
      clear c15
      by_cases c16 : t107 = 0
      ·rw [if_pos c16] at H
       have c16b0 : (t107 == 0) = true := beq_iff_eq.mpr c16
       have c16b1 : (t107 != 0) = false := bne_eq_false_iff_eq.mpr c16
       clear c16
       have H' := Aside0.mk H
       clear H
       obtain ⟨Ao17, co17, eo17⟩ := Kd.R_slice HO105.out
       subst eo17
       go_wp2
       go_meet
       case rel => exact ⟨_, (false), (by first | rfl | (simp; done) | (simp [*]; done)), H', ⟨by first | omega | exact Nat.le_refl _⟩, ⟨by (with_reducible repeat (first | apply Kd.R_alloc | apply Kd.R_drewN | apply Kd.R_drew)); exact HO105.out⟩, ⟨by (with_reducible repeat (first | apply Kd.R_alloc | apply Kd.R_drewN | apply Kd.R_drew)); exact HO109.out⟩, ⟨by repeat (first | (with_reducible first | exact HB.out | apply below_alloc | apply pw_below_drewN | apply below_drew1) | exact HB.out)⟩⟩
      ·rw [if_neg c16] at H
       have c16b0 : (t107 == 0) = false := beq_eq_false_iff_ne.mpr c16
       have c16b1 : (t107 != 0) = true := bne_iff_ne.mpr c16
       by_cases c18 : t107 = 10
       ·rw [if_pos c18] at H
        have c18b0 : (t107 == 10) = true := beq_iff_eq.mpr c18
        have c18b1 : (t107 != 10) = false := bne_eq_false_iff_eq.mpr c18
        clear c18
        have H' := Aside0.mk H
        clear H
        obtain ⟨Ao19, co19, eo19⟩ := Kd.R_slice HO105.out
        subst eo19
        obtain ⟨Ao20, co20, eo20⟩ := Kd.R_slice HO109.out
        subst eo20
        go_wp2
        go_meet
        case rel => exact ⟨_, (((t106.length : Int) != 0)), (by first | rfl | (simp; done) | (simp [*]; done)), H', ⟨by first | omega | exact Nat.le_refl _⟩, ⟨by (with_reducible repeat (first | apply Kd.R_alloc | apply Kd.R_drewN | apply Kd.R_drew)); exact HO105.out⟩, ⟨by (with_reducible repeat (first | apply Kd.R_alloc | apply Kd.R_drewN | apply Kd.R_drew)); exact HO109.out⟩, ⟨by repeat (first | (with_reducible first | exact HB.out | apply below_alloc | apply pw_below_drewN | apply below_drew1) | exact HB.out)⟩⟩
       ·rw [if_neg c18] at H
        have c18b0 : (t107 == 10) = false := beq_eq_false_iff_ne.mpr c18
        have c18b1 : (t107 != 10) = true := bne_iff_ne.mpr c18
        have H' := Aside0.mk H
        clear H
        obtain ⟨Ao21, co21, eo21⟩ := Kd.R_slice HO105.out
        subst eo21
        go_wp2
        go_meet
        case rel => exact ⟨_, (true), (by first | rfl | (simp; done) | (simp [*]; done)), H', ⟨by first | omega | exact Nat.le_refl _⟩, ⟨by (with_reducible repeat (first | apply Kd.R_alloc | apply Kd.R_drewN | apply Kd.R_drew)); exact HO105.out⟩, ⟨by (with_reducible repeat (first | apply Kd.R_alloc | apply Kd.R_drewN | apply Kd.R_drew)); exact HO109.out⟩, ⟨by repeat (first | (with_reducible first | exact HB.out | apply below_alloc | apply pw_below_drewN | apply below_drew1) | exact HB.out)⟩⟩
     ·rw [if_neg c15] at H
      have c15b0 : ((t102.length : Int) == 0) = false := beq_eq_false_iff_ne.mpr c15
      have c15b1 : ((t102.length : Int) != 0) = true := bne_iff_ne.mpr c15
      have c15b2 : ¬ (t102 = []) := fun h_ => c15 (by rw [h_]; rfl)
      have H' := Aside0.mk H
      clear H
      obtain ⟨Ao22, co22, eo22⟩ := Kd.R_slice HO105.out
      subst eo22
      go_wp2
      go_meet
      case rel => exact ⟨_, (true), (by first | rfl | (simp; done) | (simp [*]; done)), H', ⟨by first | omega | exact Nat.le_refl _⟩, ⟨by (with_reducible repeat (first | apply Kd.R_alloc | apply Kd.R_drewN | apply Kd.R_drew)); exact HO105.out⟩, ⟨by (with_reducible repeat (first | apply Kd.R_alloc | apply Kd.R_drewN | apply Kd.R_drew)); exact HO109.out⟩, ⟨by repeat (first | (with_reducible first | exact HB.out | apply below_alloc | apply pw_below_drewN | apply below_drew1) | exact HB.out)⟩⟩
    ·rw [if_neg c14] at H
     have c14b0 : (t103 == 10) = false := beq_eq_false_iff_ne.mpr c14
     have c14b1 : (t103 != 10) = true := bne_iff_ne.mpr c14
     have H' := Aside0.mk H
     clear H
     go_wp2
     go_meet
     case rel => exact ⟨_, (true), (by first | rfl | (simp; done) | (simp [*]; done)), H', ⟨by first | omega | exact Nat.le_refl _⟩, ⟨by (with_reducible repeat (first | apply Kd.R_alloc | apply Kd.R_drewN | apply Kd.R_drew)); exact HO105.out⟩, ⟨by (with_reducible repeat (first | apply Kd.R_alloc | apply Kd.R_drewN | apply Kd.R_drew)); exact HO109.out⟩, ⟨by repeat (first | (with_reducible first | exact HB.out | apply below_alloc | apply pw_below_drewN | apply below_drew1) | exact HB.out)⟩⟩
  case rest =>
   clear HC7
   try clear c1
   try clear c2
   try clear c2b0
   try clear c2b1
   try clear p2
   try clear c4
   try clear c10
   try clear c10b0
   try clear c10b1
   try clear c11
   try clear c11b0
   try clear c11b1
   try clear c12
   try clear c12b0
   try clear c12b1
   try clear c14
   try clear c14b0
   try clear c14b1
   try clear c15
   try clear c15b0
   try clear c15b1
   try clear c15b2
   try clear c16
   try clear c16b0
   try clear c16b1
   try clear c18
   try clear c18b0
   try clear c18b1
   obtain ⟨kq, x46_6, rfl, HA, HJ6, HO_3, HO_5, HB⟩ := hcut
   cases kq with
   | zero => exact absurd HA.out (by simp [tidepolelaw30_LabelsParses.j0])
   | succ kj6 =>
    have H := HA.out
    clear HA
    simp only [tidepolelaw30_LabelsParses.j0] at H
    by_cases c23 : x46_6 = true
    ·subst c23
     have H1 : (some false) = some r := by rw [if_pos rfl] at H; exact H
     clear H
     have H := H1
     clear H1
     obtain rfl := Option.some.inj H
     go_wp2
     go_ret
     exact ⟨by first | rfl | (simp [errW_none, errW_some] <;> rfl) | (simp [*, errW_none, errW_some] <;> rfl), by repeat (first | (with_reducible first | exact HB.out | apply below_alloc | apply pw_below_drewN | apply below_drew1) | exact HB.out)⟩
    ·replace c23 := Bool.eq_false_iff.mpr c23
     subst c23
     have H1 : (if t107 = 0 then ((tidepolelaw30_refs.f kj6 t106).bind fun t110 => ((tidepoleref30_Check.f kj6 t110 0).bind fun t113 => (if t113 = 0 then ((tidepolelaw30_refs.f kj6 t106).bind fun t114 => ((tidepoleref30_Text.f t114).bind fun t117 => (tidepolelaw30_LabelsParses.j1 kj6 a0 t102 t103 t106 t107 (t117.toList != a0.toList)))) else (tidepolelaw30_LabelsParses.j1 kj6 a0 t102 t103 t106 t107 true)))) else (tidepolelaw30_LabelsParses.j1 kj6 a0 t102 t103 t106 t107 false)) = some r := by rw [if_neg (show ¬ (false = true) by decide)] at H; exact H
     clear H
     have H := H1
     clear H1
     have HC24 := Aside0.mk H
     clear H
     go_upto_region 7 with (fail)
     go_cut [61] (fun v61 wc => ∃ (kq : Nat) (x61_23 : Bool), v61 = .bool x61_23 ∧ Aside0 (tidepolelaw30_LabelsParses.j1 kq a0 t102 t103 t106 t107 x61_23 = some r) ∧ Aside0 (kq ≤ kj6) ∧ Aside0 (Kd.R k58 58 wc w.heap.size (fun _ => True) v104 t102) ∧ Aside0 (Kd.R k42 42 wc w.heap.size (fun _ => True) v108 t106) ∧ Aside0 (Below w.heap.size w wc))
     case first =>
      have H := HC24.out
      clear HC24
      by_cases c25 : t107 = 0
      ·rw [if_pos c25] at H
       have c25b0 : (t107 == 0) = true := beq_iff_eq.mpr c25
       have c25b1 : (t107 != 0) = false := bne_eq_false_iff_eq.mpr c25
       clear c25
       (first | rw [c25b0] | (simp only [i64_w, i32_w]; rw [c25b0]) | skip)
       replace H := Option.bind_eq_some_iff.mp H
       obtain ⟨t110, A260, H⟩ := H
       replace H : ((tidepoleref30_Check.f kj6 t110 0).bind fun t113 => (if t113 = 0 then ((tidepolelaw30_refs.f kj6 t106).bind fun t114 => ((tidepoleref30_Text.f t114).bind fun t117 => (tidepolelaw30_LabelsParses.j1 kj6 a0 t102 t103 t106 t107 (t117.toList != a0.toList)))) else (tidepolelaw30_LabelsParses.j1 kj6 a0 t102 t103 t106 t107 true))) = some r := H
       have A26 := Aside0.mk A260
       clear A260
       replace H := Option.bind_eq_some_iff.mp H
       obtain ⟨t113, A270, H⟩ := H
       replace H : (if t113 = 0 then ((tidepolelaw30_refs.f kj6 t106).bind fun t114 => ((tidepoleref30_Text.f t114).bind fun t117 => (tidepolelaw30_LabelsParses.j1 kj6 a0 t102 t103 t106 t107 (t117.toList != a0.toList)))) else (tidepolelaw30_LabelsParses.j1 kj6 a0 t102 t103 t106 t107 true)) = some r := H
       have A27 := Aside0.mk A270
       clear A270
       by_cases c28 : t113 = 0
       ·rw [if_pos c28] at H
        have c28b0 : (t113 == 0) = true := beq_iff_eq.mpr c28
        have c28b1 : (t113 != 0) = false := bne_eq_false_iff_eq.mpr c28
        clear c28
        replace H := Option.bind_eq_some_iff.mp H
        obtain ⟨t114, A290, H⟩ := H
        replace H : ((tidepoleref30_Text.f t114).bind fun t117 => (tidepolelaw30_LabelsParses.j1 kj6 a0 t102 t103 t106 t107 (t117.toList != a0.toList))) = some r := H
        have A29 := Aside0.mk A290
        clear A290
        replace H := Option.bind_eq_some_iff.mp H
        obtain ⟨t117, A300, H⟩ := H
        replace H : (tidepolelaw30_LabelsParses.j1 kj6 a0 t102 t103 t106 t107 (t117.toList != a0.toList)) = some r := H
        have A30 := Aside0.mk A300
        clear A300
        have H' := Aside0.mk H
        clear H
        obtain ⟨Ao31, co31, eo31⟩ := Kd.R_slice HO_5.out
        subst eo31
        go_wp2_with (first | (go_at_call 19; (with_reducible refine (tidepolelaw30_refs.calls kj6 _ _ t106 t110 _ ?side1 ?side2 A26.out).mono ?_); (case side1 => repeat (first | exact (Kd.R_reads' HO_5.out).2.2 | (with_reducible refine Kd.C_alloc ?_ _) | (with_reducible refine Kd.C_drewN ?_ _) | (with_reducible refine Kd.C_drew ?_))); (case side2 => exact (Kd.R_reads' HO_5.out).2.1); rintro e w32 ⟨v111, rfl, ho0, hb⟩; have n0_ := Aside0.mk (Kd.R_below (by (with_reducible repeat (first | apply Kd.R_alloc | apply Kd.R_drewN | apply Kd.R_drew)); exact HO_3.out) hb); have n1_ := Aside0.mk (Kd.R_below (by (with_reducible repeat (first | apply Kd.R_alloc | apply Kd.R_drewN | apply Kd.R_drew)); exact HO_5.out) hb); have n2_ := Aside0.mk (Kd.R_lower ho0 (below_size (by repeat (first | (with_reducible first | exact HB.out | apply below_alloc | apply pw_below_drewN | apply below_drew1) | exact HB.out)))); have n3_ := Aside0.mk (below_step (by repeat (first | (with_reducible first | exact HB.out | apply below_alloc | apply pw_below_drewN | apply below_drew1) | exact HB.out)) hb); clear HO_3; clear HO_5; clear HB; have HO_3 := n0_; have HO_5 := n1_; have HO112 := n2_; have HB := n3_; clear n0_ n1_ n2_ n3_; (try clear hb); (try clear hb2); (try clear hk); (try clear hi); (try clear ho0); clear A26; obtain ⟨Ao33, co33, eo33⟩ := Kd.R_slice HO112.out; subst eo33) | (go_at_call 12; (with_reducible refine (tidepoleref30_Check.calls kj6 _ _ t110 0 t113 _ ?side1 ?side2 A27.out).mono ?_); (case side1 => repeat (first | exact (Kd.R_reads' HO112.out).2.2 | (with_reducible refine Kd.C_alloc ?_ _) | (with_reducible refine Kd.C_drewN ?_ _) | (with_reducible refine Kd.C_drew ?_))); (case side2 => exact (Kd.R_reads' HO112.out).2.1); rintro e w' ⟨rfl, ⟨nd, rfl⟩⟩; clear A27) | (go_at_call 19; (with_reducible refine (tidepolelaw30_refs.calls kj6 _ _ t106 t114 _ ?side1 ?side2 A29.out).mono ?_); (case side1 => repeat (first | exact (Kd.R_reads' HO_5.out).2.2 | (with_reducible refine Kd.C_alloc ?_ _) | (with_reducible refine Kd.C_drewN ?_ _) | (with_reducible refine Kd.C_drew ?_))); (case side2 => exact (Kd.R_reads' HO_5.out).2.1); rintro e w34 ⟨v115, rfl, ho0, hb⟩; have n0_ := Aside0.mk (Kd.R_below (by (with_reducible repeat (first | apply Kd.R_alloc | apply Kd.R_drewN | apply Kd.R_drew)); exact HO_3.out) hb); have n1_ := Aside0.mk (Kd.R_below (by (with_reducible repeat (first | apply Kd.R_alloc | apply Kd.R_drewN | apply Kd.R_drew)); exact HO_5.out) hb); have n2_ := Aside0.mk (Kd.R_elder' (by (with_reducible repeat (first | apply Kd.R_alloc | apply Kd.R_drewN | apply Kd.R_drew)); exact HO112.out) (Kd.R_base ho0) hb); have n3_ := Aside0.mk (Kd.R_lower (Kd.R_new' ho0 (Kd.R_lt (by (with_reducible repeat (first | apply Kd.R_alloc | apply Kd.R_drewN | apply Kd.R_drew)); exact HO112.out))) (below_size (by repeat (first | (with_reducible first | exact HB.out | apply below_alloc | apply pw_below_drewN | apply below_drew1) | exact HB.out)))); have n4_ := Aside0.mk (below_step (by repeat (first | (with_reducible first | exact HB.out | apply below_alloc | apply pw_below_drewN | apply below_drew1) | exact HB.out)) hb); clear HO_3; clear HO_5; clear HO112; clear HB; have HO_3 := n0_; have HO_5 := n1_; have HO112 := n2_; have HO116 := n3_; have HB := n4_; clear n0_ n1_ n2_ n3_ n4_; (try clear hb); (try clear hb2); (try clear hk); (try clear hi); (try clear ho0); clear A29; obtain ⟨Ao35, co35, eo35⟩ := Kd.R_slice HO116.out; subst eo35) | (go_at_call 16; (with_reducible refine (tidepoleref30_Text.calls _ _ t114 t117 _ ?side1 ?side2 A30.out).mono ?_); (case side1 => repeat (first | exact (Kd.R_reads' HO116.out).2.2 | (with_reducible refine Kd.C_alloc ?_ _) | (with_reducible refine Kd.C_drewN ?_ _) | (with_reducible refine Kd.C_drew ?_))); (case side2 => exact (Kd.R_reads' HO116.out).2.1); rintro e w36 ⟨rfl, hb⟩; have n0_ := Aside0.mk (Kd.R_below (by (with_reducible repeat (first | apply Kd.R_alloc | apply Kd.R_drewN | apply Kd.R_drew)); exact HO_3.out) hb); have n1_ := Aside0.mk (Kd.R_below (by (with_reducible repeat (first | apply Kd.R_alloc | apply Kd.R_drewN | apply Kd.R_drew)); exact HO_5.out) hb); have n2_ := Aside0.mk (Kd.R_below (by (with_reducible repeat (first | apply Kd.R_alloc | apply Kd.R_drewN | apply Kd.R_drew)); exact HO112.out) hb); have n3_ := Aside0.mk (Kd.R_below (by (with_reducible repeat (first | apply Kd.R_alloc | apply Kd.R_drewN | apply Kd.R_drew)); exact HO116.out) hb); have n4_ := Aside0.mk (below_step (by repeat (first | (with_reducible first | exact HB.out | apply below_alloc | apply pw_below_drewN | apply below_drew1) | exact HB.out)) hb); clear HO_3; clear HO_5; clear HO112; clear HO116; clear HB; have HO_3 := n0_; have HO_5 := n1_; have HO112 := n2_; have HO116 := n3_; have HB := n4_; clear n0_ n1_ n2_ n3_ n4_; (try clear hb); (try clear hb2); (try clear hk); (try clear hi); clear A30))
        go_meet
        case rel => exact ⟨_, ((t117.toList != a0.toList)), (by first | rfl | (simp; done) | (simp [*]; done)), H', ⟨by have := HJ6.out; first | omega | exact Nat.le_refl _⟩, ⟨by (with_reducible repeat (first | apply Kd.R_alloc | apply Kd.R_drewN | apply Kd.R_drew)); exact HO_3.out⟩, ⟨by (with_reducible repeat (first | apply Kd.R_alloc | apply Kd.R_drewN | apply Kd.R_drew)); exact HO_5.out⟩, ⟨by repeat (first | (with_reducible first | exact HB.out | apply below_alloc | apply pw_below_drewN | apply below_drew1) | exact HB.out)⟩⟩
       ·rw [if_neg c28] at H
        have c28b0 : (t113 == 0) = false := beq_eq_false_iff_ne.mpr c28
        have c28b1 : (t113 != 0) = true := bne_iff_ne.mpr c28
        have H' := Aside0.mk H
        clear H
        obtain ⟨Ao37, co37, eo37⟩ := Kd.R_slice HO_5.out
        subst eo37
        go_wp2_with (first | (go_at_call 19; (with_reducible refine (tidepolelaw30_refs.calls kj6 _ _ t106 t110 _ ?side1 ?side2 A26.out).mono ?_); (case side1 => repeat (first | exact (Kd.R_reads' HO_5.out).2.2 | (with_reducible refine Kd.C_alloc ?_ _) | (with_reducible refine Kd.C_drewN ?_ _) | (with_reducible refine Kd.C_drew ?_))); (case side2 => exact (Kd.R_reads' HO_5.out).2.1); rintro e w38 ⟨v111, rfl, ho0, hb⟩; have n0_ := Aside0.mk (Kd.R_below (by (with_reducible repeat (first | apply Kd.R_alloc | apply Kd.R_drewN | apply Kd.R_drew)); exact HO_3.out) hb); have n1_ := Aside0.mk (Kd.R_below (by (with_reducible repeat (first | apply Kd.R_alloc | apply Kd.R_drewN | apply Kd.R_drew)); exact HO_5.out) hb); have n2_ := Aside0.mk (Kd.R_lower ho0 (below_size (by repeat (first | (with_reducible first | exact HB.out | apply below_alloc | apply pw_below_drewN | apply below_drew1) | exact HB.out)))); have n3_ := Aside0.mk (below_step (by repeat (first | (with_reducible first | exact HB.out | apply below_alloc | apply pw_below_drewN | apply below_drew1) | exact HB.out)) hb); clear HO_3; clear HO_5; clear HB; have HO_3 := n0_; have HO_5 := n1_; have HO112 := n2_; have HB := n3_; clear n0_ n1_ n2_ n3_; (try clear hb); (try clear hb2); (try clear hk); (try clear hi); (try clear ho0); clear A26; obtain ⟨Ao39, co39, eo39⟩ := Kd.R_slice HO112.out; subst eo39) | (go_at_call 12; (with_reducible refine (tidepoleref30_Check.calls kj6 _ _ t110 0 t113 _ ?side1 ?side2 A27.out).mono ?_); (case side1 => repeat (first | exact (Kd.R_reads' HO112.out).2.2 | (with_reducible refine Kd.C_alloc ?_ _) | (with_reducible refine Kd.C_drewN ?_ _) | (with_reducible refine Kd.C_drew ?_))); (case side2 => exact (Kd.R_reads' HO112.out).2.1); rintro e w' ⟨rfl, ⟨nd, rfl⟩⟩; clear A27))
        go_meet
        case rel => exact ⟨_, (true), (by first | rfl | (simp; done) | (simp [*]; done)), H', ⟨by have := HJ6.out; first | omega | exact Nat.le_refl _⟩, ⟨by (with_reducible repeat (first | apply Kd.R_alloc | apply Kd.R_drewN | apply Kd.R_drew)); exact HO_3.out⟩, ⟨by (with_reducible repeat (first | apply Kd.R_alloc | apply Kd.R_drewN | apply Kd.R_drew)); exact HO_5.out⟩, ⟨by repeat (first | (with_reducible first | exact HB.out | apply below_alloc | apply pw_below_drewN | apply below_drew1) | exact HB.out)⟩⟩
      ·rw [if_neg c25] at H
       have c25b0 : (t107 == 0) = false := beq_eq_false_iff_ne.mpr c25
       have c25b1 : (t107 != 0) = true := bne_iff_ne.mpr c25
       (first | rw [c25b0] | (simp only [i64_w, i32_w]; rw [c25b0]) | skip)
       have H' := Aside0.mk H
       clear H
       go_wp2
       go_meet
       case rel => exact ⟨_, (false), (by first | rfl | (simp; done) | (simp [*]; done)), H', ⟨by have := HJ6.out; first | omega | exact Nat.le_refl _⟩, ⟨by (with_reducible repeat (first | apply Kd.R_alloc | apply Kd.R_drewN | apply Kd.R_drew)); exact HO_3.out⟩, ⟨by (with_reducible repeat (first | apply Kd.R_alloc | apply Kd.R_drewN | apply Kd.R_drew)); exact HO_5.out⟩, ⟨by repeat (first | (with_reducible first | exact HB.out | apply below_alloc | apply pw_below_drewN | apply below_drew1) | exact HB.out)⟩⟩
     case rest =>
      clear HC24
      try clear c1
      try clear c2
      try clear c2b0
      try clear c2b1
      try clear p2
      try clear c4
      try clear c10
      try clear c10b0
      try clear c10b1
      try clear c11
      try clear c11b0
      try clear c11b1
      try clear c12
      try clear c12b0
      try clear c12b1
      try clear c14
      try clear c14b0
      try clear c14b1
      try clear c15
      try clear c15b0
      try clear c15b1
      try clear c15b2
      try clear c16
      try clear c16b0
      try clear c16b1
      try clear c18
      try clear c18b0
      try clear c18b1
      try clear c23
      try clear c25
      try clear c25b0
      try clear c25b1
      try clear c28
      try clear c28b0
      try clear c28b1
      try clear p2
      obtain ⟨kq, x61_23, rfl, HA, HJ23, HO_3, HO_5, HB⟩ := hcut
      cases kq with
      | zero => exact absurd HA.out (by simp [tidepolelaw30_LabelsParses.j1])
      | succ kj23 =>
       have H := HA.out
       clear HA
       simp only [tidepolelaw30_LabelsParses.j1] at H
       by_cases c40 : x61_23 = true
       ·subst c40
        have H1 : (some false) = some r := by rw [if_pos rfl] at H; exact H
        clear H
        have H := H1
        clear H1
        obtain rfl := Option.some.inj H
        go_wp2
        go_ret
        exact ⟨by first | rfl | (simp [errW_none, errW_some] <;> rfl) | (simp [*, errW_none, errW_some] <;> rfl), by repeat (first | (with_reducible first | exact HB.out | apply below_alloc | apply pw_below_drewN | apply below_drew1) | exact HB.out)⟩
       ·replace c40 := Bool.eq_false_iff.mpr c40
        subst c40
        have H1 : (if t103 = 0 then (if t107 = 0 then ((tidepolelaw30_ref.f kj23 t102).bind fun t118 => ((tidepoleref30_Check.f kj23 t118 1).bind fun t121 => (if t121 = 0 then ((tidepolelaw30_ref.f kj23 t102).bind fun t122 => ((tidepoleref30_Text.f t122).bind fun t125 => (if t125.toList = a0.toList then ((tidepolelaw30_awake.f).bind fun t126 => (some t126)) else (some false)))) else (some false)))) else (some false)) else (if t107 = 0 then ((tidepolelaw30_refs.f kj23 t106).bind fun t127 => ((tidepoleref30_Check.f kj23 t127 1).bind fun t130 => (tidepolelaw30_LabelsParses.j2 kj23 t106 (t130 == 0)))) else (tidepolelaw30_LabelsParses.j2 kj23 t106 false))) = some r := by rw [if_neg (show ¬ (false = true) by decide)] at H; exact H
        clear H
        have H := H1
        clear H1
        by_cases c41 : t103 = 0
        ·rw [if_pos c41] at H
         have c41b0 : (t103 == 0) = true := beq_iff_eq.mpr c41
         have c41b1 : (t103 != 0) = false := bne_eq_false_iff_eq.mpr c41
         clear c41
         by_cases c42 : t107 = 0
         ·rw [if_pos c42] at H
          have c42b0 : (t107 == 0) = true := beq_iff_eq.mpr c42
          have c42b1 : (t107 != 0) = false := bne_eq_false_iff_eq.mpr c42
          clear c42
          replace H := Option.bind_eq_some_iff.mp H
          obtain ⟨t118, A430, H⟩ := H
          replace H : ((tidepoleref30_Check.f kj23 t118 1).bind fun t121 => (if t121 = 0 then ((tidepolelaw30_ref.f kj23 t102).bind fun t122 => ((tidepoleref30_Text.f t122).bind fun t125 => (if t125.toList = a0.toList then ((tidepolelaw30_awake.f).bind fun t126 => (some t126)) else (some false)))) else (some false))) = some r := H
          have A43 := Aside0.mk A430
          clear A430
          replace H := Option.bind_eq_some_iff.mp H
          obtain ⟨t121, A440, H⟩ := H
          replace H : (if t121 = 0 then ((tidepolelaw30_ref.f kj23 t102).bind fun t122 => ((tidepoleref30_Text.f t122).bind fun t125 => (if t125.toList = a0.toList then ((tidepolelaw30_awake.f).bind fun t126 => (some t126)) else (some false)))) else (some false)) = some r := H
          have A44 := Aside0.mk A440
          clear A440
          by_cases c45 : t121 = 0
          ·rw [if_pos c45] at H
           have c45b0 : (t121 == 0) = true := beq_iff_eq.mpr c45
           have c45b1 : (t121 != 0) = false := bne_eq_false_iff_eq.mpr c45
           clear c45
           replace H := Option.bind_eq_some_iff.mp H
           obtain ⟨t122, A460, H⟩ := H
           replace H : ((tidepoleref30_Text.f t122).bind fun t125 => (if t125.toList = a0.toList then ((tidepolelaw30_awake.f).bind fun t126 => (some t126)) else (some false))) = some r := H
           have A46 := Aside0.mk A460
           clear A460
           replace H := Option.bind_eq_some_iff.mp H
           obtain ⟨t125, A470, H⟩ := H
           replace H : (if t125.toList = a0.toList then ((tidepolelaw30_awake.f).bind fun t126 => (some t126)) else (some false)) = some r := H
           have A47 := Aside0.mk A470
           clear A470
           by_cases c48 : t125.toList = a0.toList
           ·rw [if_pos c48] at H
            have c48b0 : (t125.toList == a0.toList) = true := beq_iff_eq.mpr c48
            have c48b1 : (t125.toList != a0.toList) = false := bne_eq_false_iff_eq.mpr c48
            clear c48
            replace H := Option.bind_eq_some_iff.mp H
            obtain ⟨t126, A490, H⟩ := H
            replace H : (some t126) = some r := H
            have A49 := Aside0.mk A490
            clear A490
            obtain rfl := Option.some.inj H
            obtain ⟨Ao50, co50, eo50⟩ := Kd.R_slice HO_3.out
            subst eo50
            go_wp2_with (first | (go_at_call 9; (with_reducible refine (tidepolelaw30_ref.calls kj23 _ _ t102 t118 _ ?side1 ?side2 A43.out).mono ?_); (case side1 => repeat (first | exact (Kd.R_reads' HO_3.out).2.2 | (with_reducible refine Kd.C_alloc ?_ _) | (with_reducible refine Kd.C_drewN ?_ _) | (with_reducible refine Kd.C_drew ?_))); (case side2 => exact (Kd.R_reads' HO_3.out).2.1); rintro e w51 ⟨v119, rfl, ho0, hb⟩; have n0_ := Aside0.mk (Kd.R_below (by (with_reducible repeat (first | apply Kd.R_alloc | apply Kd.R_drewN | apply Kd.R_drew)); exact HO_3.out) hb); have n1_ := Aside0.mk (Kd.R_below (by (with_reducible repeat (first | apply Kd.R_alloc | apply Kd.R_drewN | apply Kd.R_drew)); exact HO_5.out) hb); have n2_ := Aside0.mk (Kd.R_lower ho0 (below_size (by repeat (first | (with_reducible first | exact HB.out | apply below_alloc | apply pw_below_drewN | apply below_drew1) | exact HB.out)))); have n3_ := Aside0.mk (below_step (by repeat (first | (with_reducible first | exact HB.out | apply below_alloc | apply pw_below_drewN | apply below_drew1) | exact HB.out)) hb); clear HO_3; clear HO_5; clear HB; have HO_3 := n0_; have HO_5 := n1_; have HO120 := n2_; have HB := n3_; clear n0_ n1_ n2_ n3_; (try clear hb); (try clear hb2); (try clear hk); (try clear hi); (try clear ho0); clear A43; obtain ⟨Ao52, co52, eo52⟩ := Kd.R_slice HO120.out; subst eo52) | (go_at_call 12; (with_reducible refine (tidepoleref30_Check.calls kj23 _ _ t118 1 t121 _ ?side1 ?side2 A44.out).mono ?_); (case side1 => repeat (first | exact (Kd.R_reads' HO120.out).2.2 | (with_reducible refine Kd.C_alloc ?_ _) | (with_reducible refine Kd.C_drewN ?_ _) | (with_reducible refine Kd.C_drew ?_))); (case side2 => exact (Kd.R_reads' HO120.out).2.1); rintro e w' ⟨rfl, ⟨nd, rfl⟩⟩; clear A44) | (go_at_call 9; (with_reducible refine (tidepolelaw30_ref.calls kj23 _ _ t102 t122 _ ?side1 ?side2 A46.out).mono ?_); (case side1 => repeat (first | exact (Kd.R_reads' HO_3.out).2.2 | (with_reducible refine Kd.C_alloc ?_ _) | (with_reducible refine Kd.C_drewN ?_ _) | (with_reducible refine Kd.C_drew ?_))); (case side2 => exact (Kd.R_reads' HO_3.out).2.1); rintro e w53 ⟨v123, rfl, ho0, hb⟩; have n0_ := Aside0.mk (Kd.R_below (by (with_reducible repeat (first | apply Kd.R_alloc | apply Kd.R_drewN | apply Kd.R_drew)); exact HO_3.out) hb); have n1_ := Aside0.mk (Kd.R_below (by (with_reducible repeat (first | apply Kd.R_alloc | apply Kd.R_drewN | apply Kd.R_drew)); exact HO_5.out) hb); have n2_ := Aside0.mk (Kd.R_elder' (by (with_reducible repeat (first | apply Kd.R_alloc | apply Kd.R_drewN | apply Kd.R_drew)); exact HO120.out) (Kd.R_base ho0) hb); have n3_ := Aside0.mk (Kd.R_lower (Kd.R_new' ho0 (Kd.R_lt (by (with_reducible repeat (first | apply Kd.R_alloc | apply Kd.R_drewN | apply Kd.R_drew)); exact HO120.out))) (below_size (by repeat (first | (with_reducible first | exact HB.out | apply below_alloc | apply pw_below_drewN | apply below_drew1) | exact HB.out)))); have n4_ := Aside0.mk (below_step (by repeat (first | (with_reducible first | exact HB.out | apply below_alloc | apply pw_below_drewN | apply below_drew1) | exact HB.out)) hb); clear HO_3; clear HO_5; clear HO120; clear HB; have HO_3 := n0_; have HO_5 := n1_; have HO120 := n2_; have HO124 := n3_; have HB := n4_; clear n0_ n1_ n2_ n3_ n4_; (try clear hb); (try clear hb2); (try clear hk); (try clear hi); (try clear ho0); clear A46; obtain ⟨Ao54, co54, eo54⟩ := Kd.R_slice HO124.out; subst eo54) | (go_at_call 16; (with_reducible refine (tidepoleref30_Text.calls _ _ t122 t125 _ ?side1 ?side2 A47.out).mono ?_); (case side1 => repeat (first | exact (Kd.R_reads' HO124.out).2.2 | (with_reducible refine Kd.C_alloc ?_ _) | (with_reducible refine Kd.C_drewN ?_ _) | (with_reducible refine Kd.C_drew ?_))); (case side2 => exact (Kd.R_reads' HO124.out).2.1); rintro e w55 ⟨rfl, hb⟩; have n0_ := Aside0.mk (Kd.R_below (by (with_reducible repeat (first | apply Kd.R_alloc | apply Kd.R_drewN | apply Kd.R_drew)); exact HO_3.out) hb); have n1_ := Aside0.mk (Kd.R_below (by (with_reducible repeat (first | apply Kd.R_alloc | apply Kd.R_drewN | apply Kd.R_drew)); exact HO_5.out) hb); have n2_ := Aside0.mk (Kd.R_below (by (with_reducible repeat (first | apply Kd.R_alloc | apply Kd.R_drewN | apply Kd.R_drew)); exact HO120.out) hb); have n3_ := Aside0.mk (Kd.R_below (by (with_reducible repeat (first | apply Kd.R_alloc | apply Kd.R_drewN | apply Kd.R_drew)); exact HO124.out) hb); have n4_ := Aside0.mk (below_step (by repeat (first | (with_reducible first | exact HB.out | apply below_alloc | apply pw_below_drewN | apply below_drew1) | exact HB.out)) hb); clear HO_3; clear HO_5; clear HO120; clear HO124; clear HB; have HO_3 := n0_; have HO_5 := n1_; have HO120 := n2_; have HO124 := n3_; have HB := n4_; clear n0_ n1_ n2_ n3_ n4_; (try clear hb); (try clear hb2); (try clear hk); (try clear hi); clear A47) | (go_at_call 11; (with_reducible refine (tidepolelaw30_awake.calls  t126 _ A49.out).mono ?_); rintro e w56 ⟨rfl, hb⟩; have n0_ := Aside0.mk (Kd.R_below (by (with_reducible repeat (first | apply Kd.R_alloc | apply Kd.R_drewN | apply Kd.R_drew)); exact HO_3.out) hb); have n1_ := Aside0.mk (Kd.R_below (by (with_reducible repeat (first | apply Kd.R_alloc | apply Kd.R_drewN | apply Kd.R_drew)); exact HO_5.out) hb); have n2_ := Aside0.mk (Kd.R_below (by (with_reducible repeat (first | apply Kd.R_alloc | apply Kd.R_drewN | apply Kd.R_drew)); exact HO120.out) hb); have n3_ := Aside0.mk (Kd.R_below (by (with_reducible repeat (first | apply Kd.R_alloc | apply Kd.R_drewN | apply Kd.R_drew)); exact HO124.out) hb); have n4_ := Aside0.mk (below_step (by repeat (first | (with_reducible first | exact HB.out | apply below_alloc | apply pw_below_drewN | apply below_drew1) | exact HB.out)) hb); clear HO_3; clear HO_5; clear HO120; clear HO124; clear HB; have HO_3 := n0_; have HO_5 := n1_; have HO120 := n2_; have HO124 := n3_; have HB := n4_; clear n0_ n1_ n2_ n3_ n4_; (try clear hb); (try clear hb2); (try clear hk); (try clear hi); clear A49))
            go_ret
            exact ⟨by first | rfl | (simp [errW_none, errW_some] <;> rfl) | (simp [*, errW_none, errW_some] <;> rfl), by repeat (first | (with_reducible first | exact HB.out | apply below_alloc | apply pw_below_drewN | apply below_drew1) | exact HB.out)⟩
           ·rw [if_neg c48] at H
            have c48b0 : (t125.toList == a0.toList) = false := beq_eq_false_iff_ne.mpr c48
            have c48b1 : (t125.toList != a0.toList) = true := bne_iff_ne.mpr c48
            obtain rfl := Option.some.inj H
            obtain ⟨Ao57, co57, eo57⟩ := Kd.R_slice HO_3.out
            subst eo57
            go_wp2_with (first | (go_at_call 9; (with_reducible refine (tidepolelaw30_ref.calls kj23 _ _ t102 t118 _ ?side1 ?side2 A43.out).mono ?_); (case side1 => repeat (first | exact (Kd.R_reads' HO_3.out).2.2 | (with_reducible refine Kd.C_alloc ?_ _) | (with_reducible refine Kd.C_drewN ?_ _) | (with_reducible refine Kd.C_drew ?_))); (case side2 => exact (Kd.R_reads' HO_3.out).2.1); rintro e w58 ⟨v119, rfl, ho0, hb⟩; have n0_ := Aside0.mk (Kd.R_below (by (with_reducible repeat (first | apply Kd.R_alloc | apply Kd.R_drewN | apply Kd.R_drew)); exact HO_3.out) hb); have n1_ := Aside0.mk (Kd.R_below (by (with_reducible repeat (first | apply Kd.R_alloc | apply Kd.R_drewN | apply Kd.R_drew)); exact HO_5.out) hb); have n2_ := Aside0.mk (Kd.R_lower ho0 (below_size (by repeat (first | (with_reducible first | exact HB.out | apply below_alloc | apply pw_below_drewN | apply below_drew1) | exact HB.out)))); have n3_ := Aside0.mk (below_step (by repeat (first | (with_reducible first | exact HB.out | apply below_alloc | apply pw_below_drewN | apply below_drew1) | exact HB.out)) hb); clear HO_3; clear HO_5; clear HB; have HO_3 := n0_; have HO_5 := n1_; have HO120 := n2_; have HB := n3_; clear n0_ n1_ n2_ n3_; (try clear hb); (try clear hb2); (try clear hk); (try clear hi); (try clear ho0); clear A43; obtain ⟨Ao59, co59, eo59⟩ := Kd.R_slice HO120.out; subst eo59) | (go_at_call 12; (with_reducible refine (tidepoleref30_Check.calls kj23 _ _ t118 1 t121 _ ?side1 ?side2 A44.out).mono ?_); (case side1 => repeat (first | exact (Kd.R_reads' HO120.out).2.2 | (with_reducible refine Kd.C_alloc ?_ _) | (with_reducible refine Kd.C_drewN ?_ _) | (with_reducible refine Kd.C_drew ?_))); (case side2 => exact (Kd.R_reads' HO120.out).2.1); rintro e w' ⟨rfl, ⟨nd, rfl⟩⟩; clear A44) | (go_at_call 9; (with_reducible refine (tidepolelaw30_ref.calls kj23 _ _ t102 t122 _ ?side1 ?side2 A46.out).mono ?_); (case side1 => repeat (first | exact (Kd.R_reads' HO_3.out).2.2 | (with_reducible refine Kd.C_alloc ?_ _) | (with_reducible refine Kd.C_drewN ?_ _) | (with_reducible refine Kd.C_drew ?_))); (case side2 => exact (Kd.R_reads' HO_3.out).2.1); rintro e w60 ⟨v123, rfl, ho0, hb⟩; have n0_ := Aside0.mk (Kd.R_below (by (with_reducible repeat (first | apply Kd.R_alloc | apply Kd.R_drewN | apply Kd.R_drew)); exact HO_3.out) hb); have n1_ := Aside0.mk (Kd.R_below (by (with_reducible repeat (first | apply Kd.R_alloc | apply Kd.R_drewN | apply Kd.R_drew)); exact HO_5.out) hb); have n2_ := Aside0.mk (Kd.R_elder' (by (with_reducible repeat (first | apply Kd.R_alloc | apply Kd.R_drewN | apply Kd.R_drew)); exact HO120.out) (Kd.R_base ho0) hb); have n3_ := Aside0.mk (Kd.R_lower (Kd.R_new' ho0 (Kd.R_lt (by (with_reducible repeat (first | apply Kd.R_alloc | apply Kd.R_drewN | apply Kd.R_drew)); exact HO120.out))) (below_size (by repeat (first | (with_reducible first | exact HB.out | apply below_alloc | apply pw_below_drewN | apply below_drew1) | exact HB.out)))); have n4_ := Aside0.mk (below_step (by repeat (first | (with_reducible first | exact HB.out | apply below_alloc | apply pw_below_drewN | apply below_drew1) | exact HB.out)) hb); clear HO_3; clear HO_5; clear HO120; clear HB; have HO_3 := n0_; have HO_5 := n1_; have HO120 := n2_; have HO124 := n3_; have HB := n4_; clear n0_ n1_ n2_ n3_ n4_; (try clear hb); (try clear hb2); (try clear hk); (try clear hi); (try clear ho0); clear A46; obtain ⟨Ao61, co61, eo61⟩ := Kd.R_slice HO124.out; subst eo61) | (go_at_call 16; (with_reducible refine (tidepoleref30_Text.calls _ _ t122 t125 _ ?side1 ?side2 A47.out).mono ?_); (case side1 => repeat (first | exact (Kd.R_reads' HO124.out).2.2 | (with_reducible refine Kd.C_alloc ?_ _) | (with_reducible refine Kd.C_drewN ?_ _) | (with_reducible refine Kd.C_drew ?_))); (case side2 => exact (Kd.R_reads' HO124.out).2.1); rintro e w62 ⟨rfl, hb⟩; have n0_ := Aside0.mk (Kd.R_below (by (with_reducible repeat (first | apply Kd.R_alloc | apply Kd.R_drewN | apply Kd.R_drew)); exact HO_3.out) hb); have n1_ := Aside0.mk (Kd.R_below (by (with_reducible repeat (first | apply Kd.R_alloc | apply Kd.R_drewN | apply Kd.R_drew)); exact HO_5.out) hb); have n2_ := Aside0.mk (Kd.R_below (by (with_reducible repeat (first | apply Kd.R_alloc | apply Kd.R_drewN | apply Kd.R_drew)); exact HO120.out) hb); have n3_ := Aside0.mk (Kd.R_below (by (with_reducible repeat (first | apply Kd.R_alloc | apply Kd.R_drewN | apply Kd.R_drew)); exact HO124.out) hb); have n4_ := Aside0.mk (below_step (by repeat (first | (with_reducible first | exact HB.out | apply below_alloc | apply pw_below_drewN | apply below_drew1) | exact HB.out)) hb); clear HO_3; clear HO_5; clear HO120; clear HO124; clear HB; have HO_3 := n0_; have HO_5 := n1_; have HO120 := n2_; have HO124 := n3_; have HB := n4_; clear n0_ n1_ n2_ n3_ n4_; (try clear hb); (try clear hb2); (try clear hk); (try clear hi); clear A47))
            go_ret
            exact ⟨by first | rfl | (simp [errW_none, errW_some] <;> rfl) | (simp [*, errW_none, errW_some] <;> rfl), by repeat (first | (with_reducible first | exact HB.out | apply below_alloc | apply pw_below_drewN | apply below_drew1) | exact HB.out)⟩
          ·rw [if_neg c45] at H
           have c45b0 : (t121 == 0) = false := beq_eq_false_iff_ne.mpr c45
           have c45b1 : (t121 != 0) = true := bne_iff_ne.mpr c45
           obtain rfl := Option.some.inj H
           obtain ⟨Ao63, co63, eo63⟩ := Kd.R_slice HO_3.out
           subst eo63
           go_wp2_with (first | (go_at_call 9; (with_reducible refine (tidepolelaw30_ref.calls kj23 _ _ t102 t118 _ ?side1 ?side2 A43.out).mono ?_); (case side1 => repeat (first | exact (Kd.R_reads' HO_3.out).2.2 | (with_reducible refine Kd.C_alloc ?_ _) | (with_reducible refine Kd.C_drewN ?_ _) | (with_reducible refine Kd.C_drew ?_))); (case side2 => exact (Kd.R_reads' HO_3.out).2.1); rintro e w64 ⟨v119, rfl, ho0, hb⟩; have n0_ := Aside0.mk (Kd.R_below (by (with_reducible repeat (first | apply Kd.R_alloc | apply Kd.R_drewN | apply Kd.R_drew)); exact HO_3.out) hb); have n1_ := Aside0.mk (Kd.R_below (by (with_reducible repeat (first | apply Kd.R_alloc | apply Kd.R_drewN | apply Kd.R_drew)); exact HO_5.out) hb); have n2_ := Aside0.mk (Kd.R_lower ho0 (below_size (by repeat (first | (with_reducible first | exact HB.out | apply below_alloc | apply pw_below_drewN | apply below_drew1) | exact HB.out)))); have n3_ := Aside0.mk (below_step (by repeat (first | (with_reducible first | exact HB.out | apply below_alloc | apply pw_below_drewN | apply below_drew1) | exact HB.out)) hb); clear HO_3; clear HO_5; clear HB; have HO_3 := n0_; have HO_5 := n1_; have HO120 := n2_; have HB := n3_; clear n0_ n1_ n2_ n3_; (try clear hb); (try clear hb2); (try clear hk); (try clear hi); (try clear ho0); clear A43; obtain ⟨Ao65, co65, eo65⟩ := Kd.R_slice HO120.out; subst eo65) | (go_at_call 12; (with_reducible refine (tidepoleref30_Check.calls kj23 _ _ t118 1 t121 _ ?side1 ?side2 A44.out).mono ?_); (case side1 => repeat (first | exact (Kd.R_reads' HO120.out).2.2 | (with_reducible refine Kd.C_alloc ?_ _) | (with_reducible refine Kd.C_drewN ?_ _) | (with_reducible refine Kd.C_drew ?_))); (case side2 => exact (Kd.R_reads' HO120.out).2.1); rintro e w' ⟨rfl, ⟨nd, rfl⟩⟩; clear A44))
           go_ret
           exact ⟨by first | rfl | (simp [errW_none, errW_some] <;> rfl) | (simp [*, errW_none, errW_some] <;> rfl), by repeat (first | (with_reducible first | exact HB.out | apply below_alloc | apply pw_below_drewN | apply below_drew1) | exact HB.out)⟩
         ·rw [if_neg c42] at H
          have c42b0 : (t107 == 0) = false := beq_eq_false_iff_ne.mpr c42
          have c42b1 : (t107 != 0) = true := bne_iff_ne.mpr c42
          obtain rfl := Option.some.inj H
          go_wp2
          go_ret
          exact ⟨by first | rfl | (simp [errW_none, errW_some] <;> rfl) | (simp [*, errW_none, errW_some] <;> rfl), by repeat (first | (with_reducible first | exact HB.out | apply below_alloc | apply pw_below_drewN | apply below_drew1) | exact HB.out)⟩
        ·rw [if_neg c41] at H
         have c41b0 : (t103 == 0) = false := beq_eq_false_iff_ne.mpr c41
         have c41b1 : (t103 != 0) = true := bne_iff_ne.mpr c41
         have HC66 := Aside0.mk H
         clear H
         go_upto_region 11 with (fail)
         go_cut [89] (fun v89 wc => ∃ (kq : Nat) (x89_65 : Bool), v89 = .bool x89_65 ∧ Aside0 (tidepolelaw30_LabelsParses.j2 kq t106 x89_65 = some r) ∧ Aside0 (kq ≤ kj23) ∧ Aside0 (Kd.R k42 42 wc w.heap.size (fun _ => True) v108 t106) ∧ Aside0 (Below w.heap.size w wc))
         case first =>
          have H := HC66.out
          clear HC66
          by_cases c67 : t107 = 0
          ·rw [if_pos c67] at H
           have c67b0 : (t107 == 0) = true := beq_iff_eq.mpr c67
           have c67b1 : (t107 != 0) = false := bne_eq_false_iff_eq.mpr c67
           clear c67
           (first | rw [c67b0] | (simp only [i64_w, i32_w]; rw [c67b0]) | skip)
           replace H := Option.bind_eq_some_iff.mp H
           obtain ⟨t127, A680, H⟩ := H
           replace H : ((tidepoleref30_Check.f kj23 t127 1).bind fun t130 => (tidepolelaw30_LabelsParses.j2 kj23 t106 (t130 == 0))) = some r := H
           have A68 := Aside0.mk A680
           clear A680
           replace H := Option.bind_eq_some_iff.mp H
           obtain ⟨t130, A690, H⟩ := H
           replace H : (tidepolelaw30_LabelsParses.j2 kj23 t106 (t130 == 0)) = some r := H
           have A69 := Aside0.mk A690
           clear A690
           have H' := Aside0.mk H
           clear H
           obtain ⟨Ao70, co70, eo70⟩ := Kd.R_slice HO_5.out
           subst eo70
           go_wp2_with (first | (go_at_call 19; (with_reducible refine (tidepolelaw30_refs.calls kj23 _ _ t106 t127 _ ?side1 ?side2 A68.out).mono ?_); (case side1 => repeat (first | exact (Kd.R_reads' HO_5.out).2.2 | (with_reducible refine Kd.C_alloc ?_ _) | (with_reducible refine Kd.C_drewN ?_ _) | (with_reducible refine Kd.C_drew ?_))); (case side2 => exact (Kd.R_reads' HO_5.out).2.1); rintro e w71 ⟨v128, rfl, ho0, hb⟩; have n0_ := Aside0.mk (Kd.R_below (by (with_reducible repeat (first | apply Kd.R_alloc | apply Kd.R_drewN | apply Kd.R_drew)); exact HO_3.out) hb); have n1_ := Aside0.mk (Kd.R_below (by (with_reducible repeat (first | apply Kd.R_alloc | apply Kd.R_drewN | apply Kd.R_drew)); exact HO_5.out) hb); have n2_ := Aside0.mk (Kd.R_lower ho0 (below_size (by repeat (first | (with_reducible first | exact HB.out | apply below_alloc | apply pw_below_drewN | apply below_drew1) | exact HB.out)))); have n3_ := Aside0.mk (below_step (by repeat (first | (with_reducible first | exact HB.out | apply below_alloc | apply pw_below_drewN | apply below_drew1) | exact HB.out)) hb); clear HO_3; clear HO_5; clear HB; have HO_3 := n0_; have HO_5 := n1_; have HO129 := n2_; have HB := n3_; clear n0_ n1_ n2_ n3_; (try clear hb); (try clear hb2); (try clear hk); (try clear hi); (try clear ho0); clear A68; obtain ⟨Ao72, co72, eo72⟩ := Kd.R_slice HO129.out; subst eo72) | (go_at_call 12; (with_reducible refine (tidepoleref30_Check.calls kj23 _ _ t127 1 t130 _ ?side1 ?side2 A69.out).mono ?_); (case side1 => repeat (first | exact (Kd.R_reads' HO129.out).2.2 | (with_reducible refine Kd.C_alloc ?_ _) | (with_reducible refine Kd.C_drewN ?_ _) | (with_reducible refine Kd.C_drew ?_))); (case side2 => exact (Kd.R_reads' HO129.out).2.1); rintro e w' ⟨rfl, ⟨nd, rfl⟩⟩; clear A69))
           go_meet
           case rel => exact ⟨_, ((t130 == 0)), (by first | rfl | (simp; done) | (simp [*]; done)), H', ⟨by have := HJ6.out; have := HJ23.out; first | omega | exact Nat.le_refl _⟩, ⟨by (with_reducible repeat (first | apply Kd.R_alloc | apply Kd.R_drewN | apply Kd.R_drew)); exact HO_5.out⟩, ⟨by repeat (first | (with_reducible first | exact HB.out | apply below_alloc | apply pw_below_drewN | apply below_drew1) | exact HB.out)⟩⟩
          ·rw [if_neg c67] at H
           have c67b0 : (t107 == 0) = false := beq_eq_false_iff_ne.mpr c67
           have c67b1 : (t107 != 0) = true := bne_iff_ne.mpr c67
           (first | rw [c67b0] | (simp only [i64_w, i32_w]; rw [c67b0]) | skip)
           have H' := Aside0.mk H
           clear H
           go_wp2
           go_meet
           case rel => exact ⟨_, (false), (by first | rfl | (simp; done) | (simp [*]; done)), H', ⟨by have := HJ6.out; have := HJ23.out; first | omega | exact Nat.le_refl _⟩, ⟨by (with_reducible repeat (first | apply Kd.R_alloc | apply Kd.R_drewN | apply Kd.R_drew)); exact HO_5.out⟩, ⟨by repeat (first | (with_reducible first | exact HB.out | apply below_alloc | apply pw_below_drewN | apply below_drew1) | exact HB.out)⟩⟩
         case rest =>
          clear HC66
          try clear c1
          try clear c2
          try clear c2b0
          try clear c2b1
          try clear p2
          try clear c4
          try clear c6
          try clear c10
          try clear c10b0
          try clear c10b1
          try clear c11
          try clear c11b0
          try clear c11b1
          try clear c12
          try clear c12b0
          try clear c12b1
          try clear c14
          try clear c14b0
          try clear c14b1
          try clear c15
          try clear c15b0
          try clear c15b1
          try clear c15b2
          try clear c16
          try clear c16b0
          try clear c16b1
          try clear c18
          try clear c18b0
          try clear c18b1
          try clear c23
          try clear c25
          try clear c25b0
          try clear c25b1
          try clear c28
          try clear c28b0
          try clear c28b1
          try clear c40
          try clear c41
          try clear c41b0
          try clear c41b1
          try clear c42
          try clear c42b0
          try clear c42b1
          try clear c45
          try clear c45b0
          try clear c45b1
          try clear c48
          try clear c48b0
          try clear c48b1
          try clear c67
          try clear c67b0
          try clear c67b1
          try clear p2
          obtain ⟨kq, x89_65, rfl, HA, HJ65, HO_5, HB⟩ := hcut
          cases kq with
          | zero => exact absurd HA.out (by simp [tidepolelaw30_LabelsParses.j2])
          | succ kj65 =>
           have H := HA.out
           clear HA
           simp only [tidepolelaw30_LabelsParses.j2] at H
           by_cases c73 : x89_65 = true
           ·subst c73
            have H1 : (tidepolelaw30_LabelsParses.l0 kj65 t106 (t106.length : Int) 0) = some r := by rw [if_pos rfl] at H; exact H
            clear H
            have H := H1
            clear H1
            have H' := Aside0.mk H
            clear H
            obtain ⟨Ao74, co74, eo74⟩ := Kd.R_slice HO_5.out
            subst eo74
            go_wp2
            go_loopg [92] kj65 (fun kq v92 w' => ∃ (x92_4 : Int), v92 = .int .i64 x92_4 ∧ Aside0 (tidepolelaw30_LabelsParses.l0 kq t106 (t106.length : Int) x92_4 = some r) ∧ Aside0 (kq ≤ kj65) ∧ Aside0 (Kd.R k42 42 w' w.heap.size (fun _ => True) (.slice Ao74 t106.length co74) t106) ∧ Aside0 (Below w.heap.size w w'))
            case atStart => exact ⟨(0), (by first | rfl | (simp; done) | (simp [*]; done)), H', ⟨Nat.le_refl _⟩, ⟨by (with_reducible repeat (first | apply Kd.R_alloc | apply Kd.R_drewN | apply Kd.R_drew)); exact HO_5.out⟩, ⟨by repeat (first | (with_reducible first | exact HB.out | apply below_alloc | apply pw_below_drewN | apply below_drew1) | exact HB.out)⟩⟩
            case round =>
             clear H'
             try clear c1
             try clear c2
             try clear c2b0
             try clear c2b1
             try clear p2
             try clear c4
             try clear c6
             try clear c7
             try clear c10
             try clear c10b0
             try clear c10b1
             try clear c11
             try clear c11b0
             try clear c11b1
             try clear c12
             try clear c12b0
             try clear c12b1
             try clear c14
             try clear c14b0
             try clear c14b1
             try clear c15
             try clear c15b0
             try clear c15b1
             try clear c15b2
             try clear c16
             try clear c16b0
             try clear c16b1
             try clear c18
             try clear c18b0
             try clear c18b1
             try clear c23
             try clear c25
             try clear c25b0
             try clear c25b1
             try clear c28
             try clear c28b0
             try clear c28b1
             try clear c40
             try clear c41
             try clear c41b0
             try clear c41b1
             try clear c42
             try clear c42b0
             try clear c42b1
             try clear c45
             try clear c45b0
             try clear c45b1
             try clear c48
             try clear c48b0
             try clear c48b1
             try clear c67
             try clear c67b0
             try clear c67b1
             try clear c73
             try clear p2
             obtain ⟨x92_4, rfl, HA, HK4, HO_90, HB⟩ := hrel
             cases gk with
             | zero => exact absurd HA.out (by simp [tidepolelaw30_LabelsParses.l0])
             | succ k4 =>
              have H := HA.out
              clear HA
              simp only [tidepolelaw30_LabelsParses.l0] at H
              by_cases c75 : x92_4 < (t106.length : Int)
              ·rw [if_pos c75] at H
               have c75b0 : decide (x92_4 < (t106.length : Int)) = true := decide_eq_true c75
               clear c75
               by_cases c76 : 0 ≤ x92_4
               ·rw [if_pos c76] at H
                have c76b0 : decide (0 ≤ x92_4) = true := decide_eq_true c76
                clear c76
                by_cases c77 : x92_4 < (t106.length : Int)
                ·rw [if_pos c77] at H
                 have c77b0 : decide (x92_4 < (t106.length : Int)) = true := decide_eq_true c77
                 clear c77
                 by_cases c78 : ((rd_T42 t106 x92_4).f0) = 0
                 ·rw [if_pos c78] at H
                  have c78b0 : (((rd_T42 t106 x92_4).f0) == 0) = true := beq_iff_eq.mpr c78
                  have c78b1 : (((rd_T42 t106 x92_4).f0) != 0) = false := bne_eq_false_iff_eq.mpr c78
                  clear c78
                  have H' := Aside0.mk H
                  clear H
                  have p131 : 0 ≤ (x92_4 : Int) := of_decide_eq_true (by first | (with_reducible assumption) | assumption)
                  have q131 : x92_4 < (t106.length : Int) := of_decide_eq_true (by first | (with_reducible assumption) | assumption)
                  obtain ⟨ad131, e131, hx131_0, hx131_1, hx131_2⟩ := at_T42 (Kd.R_reads' HO_90.out).2.2 x92_4 p131 q131
                  cases e131
                  replace p131 := eq_true p131
                  replace q131 := eq_true q131
                  go_wp2_with (first | ((with_reducible refine gate_dst (N := 8) rfl ?_); (try (refine gate_guard (by rfl) ?_; dsimp only)); refine box_event ?hg (N := 8) ?hd (cs := #[.int .i64 0, .string (⟨#[]⟩ : ByteArray), .string (⟨#[]⟩ : ByteArray)]) (t := 42) ?hr ?_; (case hd => rfl); (case hg => rfl); (case hr => first | (go_simp; done) | (go_simp; rfl)); intro gb132 hg w79 hbox hb; have n0_ := Aside0.mk (Kd.R_below (Kd.R_elderB (by (with_reducible repeat (first | apply Kd.R_alloc | apply Kd.R_drewN | apply Kd.R_drew)); exact HO_90.out) gb132 (Nat.le_of_eq hg.symm)) hb); have n1_ := Aside0.mk (below_step (by repeat (first | (with_reducible first | exact HB.out | apply below_alloc | apply pw_below_drewN | apply below_drew1) | exact HB.out)) hb); have n2_ := Aside0.mk (hbox); have n3_ := Aside0.mk ((by rw [hg]; exact (below_size (by repeat (first | (with_reducible first | exact HB.out | apply below_alloc | apply pw_below_drewN | apply below_drew1) | exact HB.out))) : w.heap.size ≤ gb132)); have n4_ := Aside0.mk ((by rw [hg]; exact (below_size (by repeat (first | (with_reducible first | exact HB.out | apply below_alloc | apply pw_below_drewN | apply below_drew1) | exact HB.out))) : w.heap.size ≤ gb132)); clear HO_90; clear HB; have HO_90 := n0_; have HB := n1_; have BK132 := n2_; have GW132 := n3_; have GE132 := n4_; clear n0_ n1_ n2_ n3_ n4_; clear hb hbox hg; have hcz80_0 : w79.cell? ⟨gb132, 0, none⟩ = some (.int .i64 0) := (blk_cell BK132.out 0).trans rfl; have hcz80_1 : w79.cell? ⟨gb132, 1, none⟩ = some (.string (⟨#[]⟩ : ByteArray)) := (blk_cell BK132.out 1).trans rfl; have hcz80_2 : w79.cell? ⟨gb132, 2, none⟩ = some (.string (⟨#[]⟩ : ByteArray)) := (blk_cell BK132.out 2).trans rfl; have hfz80_0 := blk_frozen BK132.out 0; have hfz80_1 := blk_frozen BK132.out 1; have hfz80_2 := blk_frozen BK132.out 2))
                  go_roundg k4
                  case measure => have := HJ6.out; have := HJ23.out; have := HJ65.out; have := HK4.out; omega
                  case rel => exact ⟨(wrap64 (x92_4 + 1)), (by first | rfl | (simp; done) | (simp [*]; done)), H', ⟨by have := HJ6.out; have := HJ23.out; have := HJ65.out; have := HK4.out; omega⟩, ⟨by (with_reducible repeat (first | apply Kd.R_alloc | apply Kd.R_drewN | apply Kd.R_drew)); exact Kd.R_mono (Kd.R_far (p := ⟨gb132, 2, none⟩) (Kd.R_far (p := ⟨gb132, 1, none⟩) (Kd.R_far (p := ⟨gb132, 0, none⟩) (Kd.R_mono HO_90.out (fun k_ hk => (⟨hk, hk.2⟩ : _ ∧ k_ ≠ gb132))) (fun _ hk => hk.2) (.int .i64 ((rd_T42 t106 x92_4).f0))) (fun _ hk => hk.2) (.string ((rd_T42 t106 x92_4).f1))) (fun _ hk => hk.2) (.string ((rd_T42 t106 x92_4).f2))) (fun _ hk => trivial)⟩, ⟨by repeat (first | (with_reducible first | exact HB.out | apply below_alloc | apply pw_below_drewN | apply below_drew1 | refine below_set ?_ GE132.out) | exact HB.out)⟩⟩
                 ·rw [if_neg c78] at H
                  have c78b0 : (((rd_T42 t106 x92_4).f0) == 0) = false := beq_eq_false_iff_ne.mpr c78
                  have c78b1 : (((rd_T42 t106 x92_4).f0) != 0) = true := bne_iff_ne.mpr c78
                  replace H := Option.bind_eq_some_iff.mp H
                  obtain ⟨t133, A810, H⟩ := H
                  replace H : (some t133) = some r := H
                  have A81 := Aside0.mk A810
                  clear A810
                  obtain rfl := Option.some.inj H
                  have p131 : 0 ≤ (x92_4 : Int) := of_decide_eq_true (by first | (with_reducible assumption) | assumption)
                  have q131 : x92_4 < (t106.length : Int) := of_decide_eq_true (by first | (with_reducible assumption) | assumption)
                  obtain ⟨ad131, e131, hx131_0, hx131_1, hx131_2⟩ := at_T42 (Kd.R_reads' HO_90.out).2.2 x92_4 p131 q131
                  cases e131
                  replace p131 := eq_true p131
                  replace q131 := eq_true q131
                  go_wp2_with (first | ((with_reducible refine gate_dst (N := 8) rfl ?_); (try (refine gate_guard (by rfl) ?_; dsimp only)); refine box_event ?hg (N := 8) ?hd (cs := #[.int .i64 0, .string (⟨#[]⟩ : ByteArray), .string (⟨#[]⟩ : ByteArray)]) (t := 42) ?hr ?_; (case hd => rfl); (case hg => rfl); (case hr => first | (go_simp; done) | (go_simp; rfl)); intro gb132 hg w82 hbox hb; have n0_ := Aside0.mk (Kd.R_below (Kd.R_elderB (by (with_reducible repeat (first | apply Kd.R_alloc | apply Kd.R_drewN | apply Kd.R_drew)); exact HO_90.out) gb132 (Nat.le_of_eq hg.symm)) hb); have n1_ := Aside0.mk (below_step (by repeat (first | (with_reducible first | exact HB.out | apply below_alloc | apply pw_below_drewN | apply below_drew1) | exact HB.out)) hb); have n2_ := Aside0.mk (hbox); have n3_ := Aside0.mk ((by rw [hg]; exact (below_size (by repeat (first | (with_reducible first | exact HB.out | apply below_alloc | apply pw_below_drewN | apply below_drew1) | exact HB.out))) : w.heap.size ≤ gb132)); have n4_ := Aside0.mk ((by rw [hg]; exact (below_size (by repeat (first | (with_reducible first | exact HB.out | apply below_alloc | apply pw_below_drewN | apply below_drew1) | exact HB.out))) : w.heap.size ≤ gb132)); clear HO_90; clear HB; have HO_90 := n0_; have HB := n1_; have BK132 := n2_; have GW132 := n3_; have GE132 := n4_; clear n0_ n1_ n2_ n3_ n4_; clear hb hbox hg; have hcz83_0 : w82.cell? ⟨gb132, 0, none⟩ = some (.int .i64 0) := (blk_cell BK132.out 0).trans rfl; have hcz83_1 : w82.cell? ⟨gb132, 1, none⟩ = some (.string (⟨#[]⟩ : ByteArray)) := (blk_cell BK132.out 1).trans rfl; have hcz83_2 : w82.cell? ⟨gb132, 2, none⟩ = some (.string (⟨#[]⟩ : ByteArray)) := (blk_cell BK132.out 2).trans rfl; have hfz83_0 := blk_frozen BK132.out 0; have hfz83_1 := blk_frozen BK132.out 1; have hfz83_2 := blk_frozen BK132.out 2) | ((with_reducible refine gate_callee (f := 11) rfl ?_); refine goesL_ (some 99) rfl rfl Try.func11 (by kernel_rfl) rfl #[] rfl (by (try simp only [List.map_toArray, List.map_cons, List.map_nil]); first | done | rfl | (simp only [List.length_drop, List.length_take]; rfl)) ?_; (with_reducible refine (tidepolelaw30_awake.calls  t133 _ A81.out).mono ?_); rintro e w84 ⟨rfl, hb⟩; refine ⟨_, rfl, ?_⟩; have n0_ := Aside0.mk (Kd.R_below (by (with_reducible repeat (first | apply Kd.R_alloc | apply Kd.R_drewN | apply Kd.R_drew)); exact (Kd.R_mono (Kd.R_far (p := ⟨gb132, 2, none⟩) (Kd.R_far (p := ⟨gb132, 1, none⟩) (Kd.R_far (p := ⟨gb132, 0, none⟩) (Kd.R_mono HO_90.out (fun k_ hk => (⟨hk, hk.2⟩ : _ ∧ k_ ≠ gb132))) (fun _ hk => hk.2) (.int .i64 ((rd_T42 t106 x92_4).f0))) (fun _ hk => hk.2) (.string ((rd_T42 t106 x92_4).f1))) (fun _ hk => hk.2) (.string ((rd_T42 t106 x92_4).f2))) (fun _ h_ => h_.1))) hb); have n1_ := Aside0.mk (blk_below (g := gb132) (o := .cells #[.int .i64 ((rd_T42 t106 x92_4).f0), .string ((rd_T42 t106 x92_4).f1), .string ((rd_T42 t106 x92_4).f2)] 42 (0, 0)) (by (with_reducible repeat (first | refine blk_drewN ?_ _ | refine blk_drew ?_ | refine blk_alloc ?_ _)); refine blk_put (cs := #[.int .i64 ((rd_T42 t106 x92_4).f0), .string ((rd_T42 t106 x92_4).f1), .string (⟨#[]⟩ : ByteArray)]) ?_ 2 _ rfl; (with_reducible repeat (first | refine blk_drewN ?_ _ | refine blk_drew ?_ | refine blk_alloc ?_ _)); refine blk_put (cs := #[.int .i64 ((rd_T42 t106 x92_4).f0), .string (⟨#[]⟩ : ByteArray), .string (⟨#[]⟩ : ByteArray)]) ?_ 1 _ rfl; (with_reducible repeat (first | refine blk_drewN ?_ _ | refine blk_drew ?_ | refine blk_alloc ?_ _)); refine blk_put (cs := #[.int .i64 0, .string (⟨#[]⟩ : ByteArray), .string (⟨#[]⟩ : ByteArray)]) ?_ 0 _ rfl; (with_reducible repeat (first | refine blk_drewN ?_ _ | refine blk_drew ?_ | refine blk_alloc ?_ _)); exact BK132.out) hb); have n2_ := Aside0.mk (below_step (by repeat (first | (with_reducible first | exact HB.out | apply below_alloc | apply pw_below_drewN | apply below_drew1 | refine below_set ?_ GE132.out) | exact HB.out)) hb); clear HO_90; clear BK132; clear HB; have HO_90 := n0_; have BK132 := n1_; have HB := n2_; clear n0_ n1_ n2_; (try clear hb); (try clear hb2); (try clear hk); (try clear hi); clear A81))
                  go_ret
                  exact ⟨by first | rfl | (simp [errW_none, errW_some] <;> rfl) | (simp [*, errW_none, errW_some] <;> rfl), by repeat (first | (with_reducible first | exact HB.out | apply below_alloc | apply pw_below_drewN | apply below_drew1 | refine below_set ?_ GE132.out) | exact HB.out)⟩
                ·rw [if_neg c77] at H
                 exact absurd H (by simp)
               ·rw [if_neg c76] at H
                exact absurd H (by simp)
              ·rw [if_neg c75] at H
               have c75b0 : decide (x92_4 < (t106.length : Int)) = false := decide_eq_false c75
               clear c75
               obtain rfl := Option.some.inj H
               go_wp2
               go_ret
               exact ⟨by first | rfl | (simp [errW_none, errW_some] <;> rfl) | (simp [*, errW_none, errW_some] <;> rfl), by repeat (first | (with_reducible first | exact HB.out | apply below_alloc | apply pw_below_drewN | apply below_drew1) | exact HB.out)⟩
           ·replace c73 := Bool.eq_false_iff.mpr c73
            subst c73
            have H1 : ((tidepolelaw30_awake.f).bind fun t134 => (some t134)) = some r := by rw [if_neg (show ¬ (false = true) by decide)] at H; exact H
            clear H
            have H := H1
            clear H1
            replace H := Option.bind_eq_some_iff.mp H
            obtain ⟨t134, A850, H⟩ := H
            replace H : (some t134) = some r := H
            have A85 := Aside0.mk A850
            clear A850
            obtain rfl := Option.some.inj H
            go_wp2_with (first | ((with_reducible refine gate_callee (f := 11) rfl ?_); refine goesL_ (some 101) rfl rfl Try.func11 (by kernel_rfl) rfl #[] rfl (by (try simp only [List.map_toArray, List.map_cons, List.map_nil]); first | done | rfl | (simp only [List.length_drop, List.length_take]; rfl)) ?_; (with_reducible refine (tidepolelaw30_awake.calls  t134 _ A85.out).mono ?_); rintro e w86 ⟨rfl, hb⟩; refine ⟨_, rfl, ?_⟩; have n0_ := Aside0.mk (Kd.R_below (by (with_reducible repeat (first | apply Kd.R_alloc | apply Kd.R_drewN | apply Kd.R_drew)); exact HO_5.out) hb); have n1_ := Aside0.mk (below_step (by repeat (first | (with_reducible first | exact HB.out | apply below_alloc | apply pw_below_drewN | apply below_drew1) | exact HB.out)) hb); clear HO_5; clear HB; have HO_5 := n0_; have HB := n1_; clear n0_ n1_; (try clear hb); (try clear hb2); (try clear hk); (try clear hi); clear A85))
            go_ret
            exact ⟨by first | rfl | (simp [errW_none, errW_some] <;> rfl) | (simp [*, errW_none, errW_some] <;> rfl), by repeat (first | (with_reducible first | exact HB.out | apply below_alloc | apply pw_below_drewN | apply below_drew1) | exact HB.out)⟩
end Go.Proofs.Ytbfiacnmielajaa.P
namespace Go.Proofs.Ytbfiacnmielajaa.P
open Go.RowKit Go.Proofs.YtbfiacnmielajaaW.PrintWords Go.Proofs.YtbfiacnmielajaaW.PrintLast Go.Proofs.YtbfiacnmielajaaW.PrintMore
attribute [local go_sem] max2_int min2_int max_two min_two max_three min_three max_four min_four
set_option linter.unusedVariables false
set_option linter.unusedSimpArgs false
def wfStr (s : ByteArray) : Prop := s.size ≤ 9223372036854775807
end Go.Proofs.Ytbfiacnmielajaa.P
namespace Go.Proofs.Ytbfiacnmielajaa.P
def headSigns : List Char := List.map Char.ofNat [104, 97, 114, 110, 101, 115, 115, 32, 100, 53, 48, 53, 51, 102, 57, 55, 55, 51, 52, 49, 100, 52, 97, 100, 53, 101, 97, 57, 102, 54, 57, 55, 98, 97, 57, 97, 54, 97, 53, 54, 97, 99, 100, 100, 99, 53, 53, 102, 100, 98, 101, 98, 52, 49, 50, 55, 100, 49, 52, 55, 57, 55, 50, 98, 49, 48, 51, 101, 53, 100, 48, 50, 32, 99, 117, 116, 32, 97, 116, 32, 116, 105, 100, 101, 112, 111, 108, 101, 47, 116, 105, 100, 101, 112, 111, 108, 101, 108, 97, 119, 51, 48, 46, 76, 97, 98, 101, 108, 115, 84, 101, 120, 116, 115, 32, 116, 105, 100, 101, 112, 111, 108, 101, 47, 116, 105, 100, 101, 112, 111, 108, 101, 108, 97, 119, 51, 48, 46, 76, 97, 98, 101, 108, 115, 80, 97, 114, 115, 101, 115, 32, 116, 105, 100, 101, 112, 111, 108, 101, 47, 116, 105, 100, 101, 112, 111, 108, 101, 108, 97, 119, 51, 48, 46, 76, 97, 98, 101, 108, 115, 77, 97, 116, 99, 104, 101, 115, 32, 116, 105, 100, 101, 112, 111, 108, 101, 47, 116, 105, 100, 101, 112, 111, 108, 101, 108, 97, 119, 51, 48, 46, 76, 97, 98, 101, 108, 115, 79, 114, 100, 101, 114, 32, 116, 105, 100, 101, 112, 111, 108, 101, 47, 116, 105, 100, 101, 112, 111, 108, 101, 108, 97, 119, 51, 48, 46, 76, 97, 98, 101, 108, 115, 65, 112, 97, 114, 116, 32, 116, 105, 100, 101, 112, 111, 108, 101, 47, 116, 105, 100, 101, 112, 111, 108, 101, 108, 97, 119, 51, 48, 46, 76, 97, 98, 101, 108, 115, 77, 97, 116, 99, 104, 101, 114, 115]
theorem head_is : Try.prog.initOrder = String.ofList headSigns := by kernel_rfl
theorem head_signs : Try.prog.initOrder.toList = headSigns := by rw [head_is]; exact String.toList_ofList
theorem head_first : (behindMainWord (wordsSigns headSigns)).head? = some "cut".toList := by kernel_rfl
theorem head_words : ∃ r, behindMainWord (wordsSigns headSigns) = "cut".toList :: r := by have h := head_first; cases h2 : behindMainWord (wordsSigns headSigns) with | nil => rw [h2] at h; cases h | cons c r => rw [h2] at h; injection h with h; exact ⟨r, by rw [h]⟩
theorem strip_cut (r : List (List Char)) : stripLifts liftWords ("cut".toList :: r) = ([], "cut".toList :: r) := by kernel_rfl
theorem head_lifts : Try.prog.headLifts = [] := by obtain ⟨r, hr⟩ := head_words; unfold Program.headLifts; rw [head_signs, hr, strip_cut]; kernel_rfl
theorem head_doorFits : Try.prog.doorFits [] = true := by kernel_rfl
theorem head_laysLater : Try.prog.laysLater = false := by kernel_rfl
theorem head_bearsReflect : Try.prog.bearsReflect = false := by kernel_rfl
theorem mayEnter_of {P : Program} {L : List Char} {r : List (List Char)} (h1 : P.initOrder.toList = L) (h2 : behindMainWord (wordsSigns L) = "cut".toList :: r) (h3 : P.doorFits [] = true) (h4 : P.laysLater = false) (h5 : P.bearsReflect = false) : P.mayEnter = true := by unfold Program.mayEnter; rw [h1, h2]; simp only [strip_cut, h3, h4, h5]; kernel_rfl
theorem head_mayEnter : Try.prog.mayEnter = true := by obtain ⟨r, hr⟩ := head_words; exact mayEnter_of head_signs hr head_doorFits head_laysLater head_bearsReflect
theorem head_liftsFinal : Try.prog.liftsFinal = false := by obtain ⟨r, hr⟩ := head_words; unfold Program.liftsFinal; rw [head_signs, head_lifts, hr]; kernel_rfl
theorem make_of {P : Program} {L : List Char} {r : List (List Char)} (h1 : P.initOrder.toList = L) (h2 : behindMainWord (wordsSigns L) = "cut".toList :: r) : P.make = some .cut := by unfold Program.make; rw [h1, h2]; kernel_rfl
theorem head_make : Try.prog.make = some .cut := by obtain ⟨r, hr⟩ := head_words; exact make_of head_signs hr
theorem head_laidOut : laidOutB Try.prog = true := by kernel_rfl
theorem head_mapsRowed : mapsRowed Try.prog = true := by kernel_rfl
theorem head_stops : (Try.prog.stops == []) = true := by kernel_rfl
theorem head_stopKnobs : (Try.prog.stopKnobs == []) = true := by kernel_rfl
theorem head_plainKeys : Try.prog.plainKeys = true := by kernel_rfl
theorem head_stopsHeard : Try.prog.stopsHeard = true := by kernel_rfl
end Go.Proofs.Ytbfiacnmielajaa.P
namespace Go.Proofs.Ytbfiacnmielajaa.P
open Go.RowKit Go.Proofs.YtbfiacnmielajaaW.PrintWords Go.Proofs.YtbfiacnmielajaaW.PrintLast Go.Proofs.YtbfiacnmielajaaW.PrintMore
set_option linter.unusedVariables false
set_option linter.unusedSimpArgs false
abbrev Lb := S58
abbrev Mt := S42
abbrev Rm := S59
theorem rdR_ (l : List Rm) (i : Nat) (h : i < l.length) : rd_T59 l (i : Int) = l[i] := by unfold rd_T59; simp [List.getD, h]
theorem rdM_ (l : List Mt) (i : Nat) (h : i < l.length) : rd_T42 l (i : Int) = l[i] := by unfold rd_T42; simp [List.getD, h]
theorem rdL_ (l : List Lb) (i : Nat) (h : i < l.length) : rd_T58 l (i : Int) = l[i] := by unfold rd_T58; simp [List.getD, h]
theorem wrS {i : Nat} (h : i < 9000000000000000000) : wrap64 ((i : Int) + 1) = ((i + 1 : Nat) : Int) := by unfold wrap64; omega
def rfL (x : Lb) : Rm := ⟨0, x.f0, x.f1⟩
def rfM (x : Mt) : Rm := ⟨x.f0, x.f1, x.f2⟩
theorem ref_l0 (l : List Lb) (hl : l.length ≤ 3518437208883) : ∀ (d k i : Nat), i + d = l.length → d < k → tidepolelaw30_ref.l0 k ((l.take i).map rfL) l (l.length : Int) (i : Int) = some (l.map rfL) := by
  intro d
  induction d with
  | zero =>
    intro k i hi hk
    obtain ⟨k, rfl⟩ : ∃ m, k = m + 1 := ⟨k - 1, by omega⟩
    simp only [tidepolelaw30_ref.l0]
    rw [if_neg (by omega), List.take_of_length_le (by omega)]
  | succ d ih =>
    intro k i hi hk
    obtain ⟨k, rfl⟩ : ∃ m, k = m + 1 := ⟨k - 1, by omega⟩
    have hlt : i < l.length := by omega
    simp only [tidepolelaw30_ref.l0]
    rw [if_pos (by omega), if_pos (by omega), if_pos (by omega), if_pos (by simp; omega), wrS (by omega), rdL_ l i hlt, ← ih k (i + 1) (by omega) (by omega), List.take_succ_eq_append_getElem hlt, List.map_append]
    rfl
theorem ref_eq (l : List Lb) (hl : l.length ≤ 3518437208883) (k : Nat) (hk : l.length < k) : tidepolelaw30_ref.f k l = some (l.map rfL) := ref_l0 l hl l.length k 0 (by omega) hk
theorem refs_l0 (l : List Mt) (hl : l.length ≤ 3518437208883) : ∀ (d k i : Nat), i + d = l.length → d < k → tidepolelaw30_refs.l0 k ((l.take i).map rfM) l (l.length : Int) (i : Int) = some (l.map rfM) := by
  intro d
  induction d with
  | zero =>
    intro k i hi hk
    obtain ⟨k, rfl⟩ : ∃ m, k = m + 1 := ⟨k - 1, by omega⟩
    simp only [tidepolelaw30_refs.l0]
    rw [if_neg (by omega), List.take_of_length_le (by omega)]
  | succ d ih =>
    intro k i hi hk
    obtain ⟨k, rfl⟩ : ∃ m, k = m + 1 := ⟨k - 1, by omega⟩
    have hlt : i < l.length := by omega
    simp only [tidepolelaw30_refs.l0]
    rw [if_pos (by omega), if_pos (by omega), if_pos (by omega), if_pos (by simp; omega), wrS (by omega), rdM_ l i hlt, ← ih k (i + 1) (by omega) (by omega), List.take_succ_eq_append_getElem hlt, List.map_append]
    rfl
theorem refs_eq (l : List Mt) (hl : l.length ≤ 3518437208883) (k : Nat) (hk : l.length < k) : tidepolelaw30_refs.f k l = some (l.map rfM) := refs_l0 l hl l.length k 0 (by omega) hk
def chkL (lab : Int) : Option ByteArray → List Rm → Int
  | _, [] => 0
  | p, x :: l => if lab = 0 ∧ (x.f0 < 0 ∨ x.f0 > 3) then 11 else if nameR x.f1 = true then (if x.f2.size ≤ 200 then (if lab = 1 ∧ (∃ q, p = some q ∧ Op.bytesLess q.toList x.f1.toList = false) then 11 else chkL lab (some x.f1) l) else 17) else 10
def checkR (lab : Int) (l : List Rm) : Int := if l.length > 16 then 12 else chkL lab none l
def pv (l : List Rm) (i : Nat) : Option ByteArray := if i = 0 then none else some (rd_T59 l ((i : Int) - 1)).f1
theorem pv_succ (l : List Rm) (i : Nat) (h : i < l.length) : pv l (i + 1) = some l[i].f1 := by
  unfold pv
  rw [if_neg (by omega), show ((i + 1 : Nat) : Int) - 1 = (i : Int) by omega, rdR_ l i h]
theorem wrP {i : Nat} (h : i < 9000000000000000000) (h0 : 0 < i) : wrap64 ((i : Int) - 1) = (i : Int) - 1 := by unfold wrap64; omega
theorem check_l0 (l : List Rm) (lab : Int) (hlab : lab = 0 ∨ lab = 1) (hl : l.length ≤ 16) : ∀ (d k i : Nat), i + d = l.length → 2 * d < k → tidepoleref30_Check.l0 k l lab (i : Int) = some (chkL lab (pv l i) (l.drop i)) := by
  intro d
  induction d with
  | zero =>
    intro k i hi hk
    obtain ⟨k, rfl⟩ : ∃ m, k = m + 1 := ⟨k - 1, by omega⟩
    simp only [tidepoleref30_Check.l0]
    rw [if_neg (by omega), List.drop_of_length_le (by omega)]
    rfl
  | succ d ih =>
    intro k i hi hk
    obtain ⟨k, rfl⟩ : ∃ m, k = m + 2 := ⟨k - 2, by omega⟩
    have hlt : i < l.length := by omega
    have hrec := ih k (i + 1) (by omega) (by omega)
    rw [pv_succ l i hlt] at hrec
    simp only [tidepoleref30_Check.l0]
    rw [if_pos (by omega), List.drop_eq_getElem_cons hlt]
    have key : ∀ b : Bool, tidepoleref30_Check.j1 (k + 1) l lab (i : Int) b = some (if b = true then 11 else if nameR l[i].f1 = true then (if l[i].f2.size ≤ 200 then (if lab = 1 ∧ (∃ q, pv l i = some q ∧ Op.bytesLess q.toList l[i].f1.toList = false) then 11 else chkL lab (some l[i].f1) (l.drop (i + 1))) else 17) else 10) := by
      intro b
      simp only [tidepoleref30_Check.j1]
      by_cases hb : b = true
      · rw [if_pos hb, if_pos hb]
      · rw [if_neg hb, if_neg hb, if_pos (by omega), if_pos (by omega), rdR_ l i hlt, wrS (by omega), hrec]
        simp only [tidepoleref30_Name.f, Option.bind_some]
        by_cases hn : nameR l[i].f1 = true
        · rw [if_pos hn, if_pos hn]
          by_cases hv : l[i].f2.size ≤ 200
          · rw [if_neg (by omega), if_pos hv]
            by_cases h1 : lab = 1
            · rw [if_pos h1]
              by_cases h0 : i = 0
              · subst h0
                rw [if_neg (by decide), if_neg (by rintro ⟨_, q, hq, _⟩; simp [pv] at hq)]
              · rw [if_pos (by omega), wrP (by omega) (by omega), if_pos (by omega), if_pos (by omega)]
                have hp : pv l i = some (rd_T59 l ((i : Int) - 1)).f1 := by unfold pv; rw [if_neg h0]
                by_cases hb2 : Op.bytesLess (rd_T59 l ((i : Int) - 1)).f1.toList l[i].f1.toList = true
                · rw [if_pos hb2, if_neg (by rintro ⟨_, q, hq, hf⟩; rw [hp] at hq; cases hq; rw [hb2] at hf; cases hf)]
                · rw [if_neg hb2, if_pos ⟨h1, _, hp, Bool.eq_false_iff.2 hb2⟩]
            · rw [if_neg h1, if_neg (fun h => h1 h.1)]
          · rw [if_pos (by omega), if_neg hv]
        · rw [if_neg hn, if_neg hn]
    simp only [chkL]
    rcases hlab with rfl | rfl
    · rw [if_pos rfl, if_pos (by omega), rdR_ l i hlt]
      by_cases h0 : l[i].f0 < 0
      · rw [if_pos h0, key, if_pos rfl, if_pos ⟨rfl, .inl h0⟩]
      · rw [if_neg h0, key]
        by_cases h3 : l[i].f0 > 3
        · rw [if_pos (decide_eq_true h3), if_pos ⟨rfl, .inr h3⟩]
        · rw [if_neg (by rw [decide_eq_false h3]; decide), if_neg (show ¬ ((0 : Int) = 0 ∧ (l[i].f0 < 0 ∨ l[i].f0 > 3)) from fun h => h.2.elim h0 h3)]
    · rw [if_neg (by decide), key, if_neg (by decide), if_neg (show ¬ ((1 : Int) = 0 ∧ (l[i].f0 < 0 ∨ l[i].f0 > 3)) from fun h => absurd h.1 (by decide))]
theorem check_eq (l : List Rm) (lab : Int) (hlab : lab = 0 ∨ lab = 1) (k : Nat) (hk : 40 < k) : tidepoleref30_Check.f k l lab = some (checkR lab l) := by
  unfold tidepoleref30_Check.f checkR
  by_cases h : l.length > 16
  · rw [if_pos (by omega), if_pos h]
  · rw [if_neg (by omega), if_neg h, show (0 : Int) = ((0 : Nat) : Int) from rfl, check_l0 l lab hlab (by omega) l.length k 0 (by omega) (by omega)]
    rfl
theorem letter_eq (c : Int) (b : Bool) (k : Nat) (hk : 2 < k) : labels_letter.f k c b = some (chk c b) := by
  obtain ⟨k, rfl⟩ : ∃ m, k = m + 2 := ⟨k - 2, by omega⟩
  unfold labels_letter.f chk
  have e95 : (c == 95) = decide (c = 95) := rfl
  by_cases h1 : 48 ≤ c <;> by_cases h2 : c ≤ 57 <;> by_cases h3 : 97 ≤ c <;> by_cases h4 : c ≤ 122 <;> by_cases h5 : 65 ≤ c <;> by_cases h6 : c ≤ 90 <;>
    first
    | (exfalso; omega)
    | simp [labels_letter.j0, labels_letter.j1, h1, h2, h3, h4, h5, h6, e95]
theorem named_l0 (s : ByteArray) (hs : s.size ≤ 1000000) : ∀ (d k i : Nat), i + d = s.size → d + 3 < k → labels_named.l0 k s (s.size : Int) (i : Int) = some (nameL s d i && (decide (1 ≤ s.size) && decide (s.size ≤ 40))) := by
  intro d
  induction d with
  | zero =>
    intro k i hi hk
    obtain ⟨k, rfl⟩ : ∃ m, k = m + 1 := ⟨k - 1, by omega⟩
    simp only [labels_named.l0, nameL, Bool.true_and]
    rw [if_neg (by omega)]
    by_cases h : 1 ≤ s.size
    · rw [if_pos (by omega), decide_eq_true h, Bool.true_and]
      congr 1
      exact decide_eq_decide.2 (by omega)
    · rw [if_neg (by omega), decide_eq_false h]; rfl
  | succ d ih =>
    intro k i hi hk
    obtain ⟨k, rfl⟩ : ∃ m, k = m + 1 := ⟨k - 1, by omega⟩
    simp only [labels_named.l0, nameL]
    have hz : ((i : Int) == 0) = decide (i = 0) := by
      rw [show ((i : Int) == 0) = decide ((i : Int) = 0) from rfl]; exact decide_eq_decide.2 (by omega)
    rw [if_pos (by omega), if_pos (by omega), if_pos (by omega), letter_eq _ _ k (by omega), wrS (by omega), ih k (i + 1) (by omega) (by omega), hz]
    simp only [Option.bind_some]
    by_cases h : chk (bt s (i : Int)) (decide (i = 0)) = true
    · rw [if_pos h, h, Bool.true_and]
    · rw [if_neg h, Bool.eq_false_iff.2 h, Bool.false_and, Bool.false_and]
theorem named_eq (s : ByteArray) (hs : s.size ≤ 1000000) (k : Nat) (hk : s.size + 3 < k) : labels_named.f k s = some (nameR s) := by
  unfold labels_named.f nameR
  rw [show (0 : Int) = ((0 : Nat) : Int) from rfl, named_l0 s hs s.size k 0 (by omega) hk]
  congr 1
  rw [Bool.and_comm, Bool.and_assoc]
theorem part_eq (n v : ByteArray) (hs : n.size ≤ 1000000) (k : Nat) (hk : n.size + 3 < k) : labels_part.f k n v = some (if nameR n = true then (if v.size ≤ 200 then 0 else 17) else 10) := by
  unfold labels_part.f
  rw [named_eq n hs k hk]
  simp only [Option.bind_some]
  by_cases h : nameR n = true
  · rw [if_pos h, if_pos h]
    by_cases h2 : v.size ≤ 200
    · rw [if_neg (by omega), if_pos h2]
    · rw [if_pos (by omega), if_neg h2]
  · rw [if_neg h, if_neg h]
theorem checkM_l0 (l : List Mt) (hl : l.length ≤ 16) (hn : ∀ x ∈ l, x.f1.size ≤ 2500) : ∀ (d k i : Nat), i + d = l.length → 2 * d + 2600 < k → ∀ p, labels_CheckMatchers.l0 k l (l.length : Int) (i : Int) = some (chkL 0 p ((l.drop i).map rfM)) := by
  intro d
  induction d with
  | zero =>
    intro k i hi hk p
    obtain ⟨k, rfl⟩ : ∃ m, k = m + 1 := ⟨k - 1, by omega⟩
    simp only [labels_CheckMatchers.l0]
    rw [if_neg (by omega), List.drop_of_length_le (by omega)]
    rfl
  | succ d ih =>
    intro k i hi hk p
    obtain ⟨k, rfl⟩ : ∃ m, k = m + 2 := ⟨k - 2, by omega⟩
    have hlt : i < l.length := by omega
    have hx := hn l[i] (List.getElem_mem hlt)
    have hrec := ih k (i + 1) (by omega) (by omega) (some l[i].f1)
    simp only [labels_CheckMatchers.l0, labels_CheckMatchers.j1]
    rw [if_pos (by omega), if_pos (by omega), if_pos (by omega), rdM_ l i hlt, List.drop_eq_getElem_cons hlt, List.map_cons, wrS (by omega), hrec, part_eq _ _ (by omega) k (by omega)]
    generalize l[i] = x
    have h3' : x.f0 > 3 ↔ 3 < x.f0 := Iff.rfl
    by_cases h0 : x.f0 < 0
    · simp [chkL, rfM, h0]
    · by_cases h3 : 3 < x.f0
      · simp [chkL, rfM, h0, h3]
      · by_cases hn : nameR x.f1 = true
        · by_cases hv : x.f2.size ≤ 200
          · simp [chkL, rfM, h0, h3, hn, hv]
          · simp [chkL, rfM, h0, h3, hn, hv]
        · simp [chkL, rfM, h0, h3, hn]
theorem checkM_eq (l : List Mt) (hn : l.length ≤ 16 → ∀ x ∈ l, x.f1.size ≤ 2500) (k : Nat) (hk : 2700 < k) : labels_CheckMatchers.f k l = some (checkR 0 (l.map rfM)) := by
  unfold labels_CheckMatchers.f checkR
  by_cases h : l.length > 16
  · rw [if_pos (by omega), if_pos (by simpa using h)]
  · rw [if_neg (by omega), if_neg (by simpa using h), show (0 : Int) = ((0 : Nat) : Int) from rfl, checkM_l0 l (by omega) (hn (by omega)) l.length k 0 (by omega) (by omega) none]
    rfl
theorem checkL_l0 (l : List Lb) (hl : l.length ≤ 16) (hn : ∀ x ∈ l, x.f0.size ≤ 2500) : ∀ (d k i : Nat), i + d = l.length → d + 2600 < k → labels_Check.l0 k l l (l.length : Int) (i : Int) = some (chkL 1 (pv (l.map rfL) i) ((l.drop i).map rfL)) := by
  intro d
  induction d with
  | zero =>
    intro k i hi hk
    obtain ⟨k, rfl⟩ : ∃ m, k = m + 1 := ⟨k - 1, by omega⟩
    simp only [labels_Check.l0]
    rw [if_neg (by omega), List.drop_of_length_le (by omega)]
    rfl
  | succ d ih =>
    intro k i hi hk
    obtain ⟨k, rfl⟩ : ∃ m, k = m + 1 := ⟨k - 1, by omega⟩
    have hlt : i < l.length := by omega
    have hx := hn l[i] (List.getElem_mem hlt)
    have hrec := ih k (i + 1) (by omega) (by omega)
    rw [pv_succ (l.map rfL) i (by simpa using hlt), List.getElem_map] at hrec
    simp only [labels_Check.l0]
    rw [if_pos (by omega), if_pos (by omega), if_pos (by omega), rdL_ l i hlt, List.drop_eq_getElem_cons hlt, List.map_cons, wrS (by omega), hrec, part_eq _ _ (by omega) k (by omega)]
    simp only [chkL, Option.bind_some]
    rw [if_neg (show ¬ ((1 : Int) = 0 ∧ ((rfL l[i]).f0 < 0 ∨ (rfL l[i]).f0 > 3)) from fun h => absurd h.1 (by decide))]
    have e1 : (rfL l[i]).f1 = l[i].f0 := rfl
    have e2 : (rfL l[i]).f2 = l[i].f1 := rfl
    rw [e1, e2]
    by_cases hn : nameR l[i].f0 = true
    · rw [if_pos hn, if_pos hn]
      by_cases hv : l[i].f1.size ≤ 200
      · rw [if_pos hv, if_pos hv, if_pos rfl]
        by_cases h0 : i = 0
        · subst h0
          rw [if_neg (by decide), if_neg (by rintro ⟨_, q, hq, _⟩; simp [pv] at hq)]
        · rw [if_pos (by omega), wrP (by omega) (by omega), if_pos (by omega), if_pos (by omega)]
          have hi1 : ((i : Int) - 1) = ((i - 1 : Nat) : Int) := by omega
          have hp : pv (l.map rfL) i = some (l[i - 1]'(by omega)).f0 := by
            unfold pv; rw [if_neg h0, hi1, rdR_ _ _ (by simp; omega), List.getElem_map]; rfl
          rw [hi1, rdL_ l (i - 1) (by omega)]
          by_cases hb2 : Op.bytesLess (l[i - 1]'(by omega)).f0.toList l[i].f0.toList = true
          · rw [if_pos hb2, if_neg (by rintro ⟨_, q, hq, hf⟩; rw [hp] at hq; cases hq; rw [hb2] at hf; cases hf)]
          · rw [if_neg hb2, if_pos ⟨trivial, _, hp, Bool.eq_false_iff.2 hb2⟩]
      · rw [if_neg hv, if_neg hv, if_neg (by decide)]
    · rw [if_neg hn, if_neg hn, if_neg (by decide)]
theorem checkL_eq (l : List Lb) (hn : l.length ≤ 16 → ∀ x ∈ l, x.f0.size ≤ 2500) (k : Nat) (hk : 2700 < k) : labels_Check.f k l = some (checkR 1 (l.map rfL)) := by
  unfold labels_Check.f checkR
  by_cases h : l.length > 16
  · rw [if_pos (by omega), if_pos (by simpa using h)]
  · rw [if_neg (by omega), if_neg (by simpa using h), show (0 : Int) = ((0 : Nat) : Int) from rfl, checkL_l0 l (by omega) (hn (by omega)) l.length k 0 (by omega) (by omega)]
    rfl
end Go.Proofs.Ytbfiacnmielajaa.P
namespace Go.Proofs.Ytbfiacnmielajaa.P
open Go.RowKit Go.Proofs.YtbfiacnmielajaaW.PrintWords Go.Proofs.YtbfiacnmielajaaW.PrintLast Go.Proofs.YtbfiacnmielajaaW.PrintMore
attribute [local go_sem] max2_int min2_int max_two min_two max_three min_three max_four min_four
set_option linter.unusedVariables false
set_option linter.unusedSimpArgs false
def pieceM (x : S42) : ByteArray := x.f1 ++ sgn x.f0.toNat ++ quotedR x.f2
end Go.Proofs.Ytbfiacnmielajaa.P
namespace Go.Proofs.Ytbfiacnmielajaa.P
open Go.RowKit Go.Proofs.YtbfiacnmielajaaW.PrintWords Go.Proofs.YtbfiacnmielajaaW.PrintLast Go.Proofs.YtbfiacnmielajaaW.PrintMore
set_option linter.unusedVariables false
set_option linter.unusedSimpArgs false
def mk (l : List UInt8) : ByteArray := ⟨l.toArray⟩
theorem mk_data (s : ByteArray) : mk s.data.toList = s := ByteArray.ext (by simp [mk])
theorem mk_size (l : List UInt8) : (mk l).size = l.length := by simp [mk, ByteArray.size]
theorem mk_toList (l : List UInt8) : (mk l).toList = l := by rw [Go.ByteArray.toList_eq]; simp [mk]
theorem mk_dtl (l : List UInt8) : (mk l).data.toList = l := by simp [mk]
theorem mk_append (a b : List UInt8) : mk a ++ mk b = mk (a ++ b) := ByteArray.ext (by simp [mk, ByteArray.data_append])
theorem mk_extract (l : List UInt8) (a b : Nat) : (mk l).extract a b = mk ((l.drop a).take (b - a)) := by
  apply ByteArray.ext
  simp [mk, ByteArray.data_extract, List.extract_eq_take_drop]
theorem mk_from (l : List UInt8) (a : Nat) : (mk l).extract a (mk l).size = mk (l.drop a) := by
  rw [mk_extract, mk_size, List.take_of_length_le (by simp)]
theorem bt_mk (l : List UInt8) (i : Nat) (h : i < l.length) : bt (mk l) (i : Int) = ((l[i]).toNat : Int) := by
  have hs : (i : Int).toNat < (mk l).size := by rw [mk_size]; simpa using h
  rw [← bt_at (mk l) (i : Int) hs]
  rfl
theorem bt_mk0 (c : UInt8) (l : List UInt8) : bt (mk (c :: l)) 0 = (c.toNat : Int) := bt_mk (c :: l) 0 (by simp)
theorem pre_take (p l : List UInt8) : (l.take p.length == p) = p.isPrefixOf l := by
  rw [Bool.eq_iff_iff, beq_iff_eq, List.isPrefixOf_iff_prefix, List.prefix_iff_eq_take]
  exact ⟨fun h => h.symm, fun h => h.symm⟩
theorem hp_mk (l p : List UInt8) : strings_HasPrefix.f (mk l) (mk p) = some (p.isPrefixOf l) := by
  unfold strings_HasPrefix.f stringslite_HasPrefix.f
  rw [mk_size, mk_size]
  by_cases h : (l.length : Int) ≥ (p.length : Int)
  · rw [if_pos h, if_pos (by omega), if_pos (by omega), mk_extract, mk_toList, mk_toList]
    simp only [Option.bind_some, Int.toNat_natCast, Nat.sub_zero, List.drop_zero]
    rw [pre_take]
  · rw [if_neg h]
    simp only [Option.bind_some]
    congr 1
    cases hp : p.isPrefixOf l with
    | false => rfl
    | true => have := (List.isPrefixOf_iff_prefix.1 hp).length_le; omega
theorem take_mk (l p : List UInt8) (b : Bool) : labels_reader_take.f (mk l) b (mk p) = some (if p.isPrefixOf l = true then (mk (l.drop p.length), b) else (mk l, true)) := by
  have h0 : stringslite_HasPrefix.f (mk l) (mk p) = some (p.isPrefixOf l) := by
    have := hp_mk l p
    unfold strings_HasPrefix.f at this
    rw [Option.bind_eq_some_iff] at this
    obtain ⟨q, h, e⟩ := this
    cases e; exact h
  unfold labels_reader_take.f strings_CutPrefix.f stringslite_CutPrefix.f
  rw [h0]
  simp only [Option.bind_some]
  cases hp : p.isPrefixOf l with
  | false => cases b <;> simp
  | true =>
    have hl := (List.isPrefixOf_iff_prefix.1 hp).length_le
    rw [if_pos rfl, mk_size, if_pos (by omega), if_pos (by rw [mk_size]; omega), Int.toNat_natCast, mk_from]
    cases b <;> simp
theorem letter_eq1 (c : Int) (b : Bool) (k : Nat) (hk : 1 < k) : labels_letter.f k c b = some (chk c b) := by
  obtain ⟨k, rfl⟩ : ∃ m, k = m + 2 := ⟨k - 2, by omega⟩
  unfold labels_letter.f chk
  have e95 : (c == 95) = decide (c = 95) := rfl
  by_cases h1 : 48 ≤ c <;> by_cases h2 : c ≤ 57 <;> by_cases h3 : 97 ≤ c <;> by_cases h4 : c ≤ 122 <;> by_cases h5 : 65 ≤ c <;> by_cases h6 : c ≤ 90 <;>
    first
    | (exfalso; omega)
    | simp [labels_letter.j0, labels_letter.j1, h1, h2, h3, h4, h5, h6, e95]
def okN (c : UInt8) : Bool := chk (c.toNat : Int) false
theorem name_l0 (l : List UInt8) (b : Bool) (hl : l.length ≤ 1000000000) : ∀ (d k i : Nat), i + d = l.length → d + 1 < k → (∀ c ∈ l.take i, okN c = true) →
    labels_reader_name.l0 k (i : Int) (mk l) b = some (mk (l.takeWhile okN), mk (l.dropWhile okN), b) := by
  have fin : ∀ i : Nat, i ≤ l.length → (∀ c ∈ l.take i, okN c = true) → (∀ h : i < l.length, okN l[i] = false) → l.takeWhile okN = l.take i ∧ l.dropWhile okN = l.drop i := by
    intro i hi h1 h2
    have e1 : l.takeWhile okN = l.take i := by
      conv => lhs; rw [← List.take_append_drop i l]
      rw [List.takeWhile_append_of_pos h1]
      cases hd : l.drop i with
      | nil => simp
      | cons a r =>
        have hlt : i < l.length := by
          rcases Nat.lt_or_ge i l.length with h | h
          · exact h
          · rw [List.drop_of_length_le h] at hd; cases hd
        have ha : l[i] = a := by rw [List.drop_eq_getElem_cons hlt] at hd; injection hd
        rw [List.takeWhile_cons, ← ha, h2 hlt]; simp
    refine ⟨e1, ?_⟩
    have := List.takeWhile_append_dropWhile (p := okN) (l := l)
    rw [e1] at this
    conv at this => rhs; rw [← List.take_append_drop i l]
    exact List.append_cancel_left this
  intro d
  induction d with
  | zero =>
    intro k i hi hk ho
    obtain ⟨k, rfl⟩ : ∃ q, k = q + 1 := ⟨k - 1, by omega⟩
    obtain ⟨e1, e2⟩ := fin i (by omega) ho (fun h => by omega)
    simp only [labels_reader_name.l0]
    rw [if_neg (by rw [mk_size]; omega), if_pos (by omega), if_pos (by rw [mk_size]; omega), Int.toNat_natCast, mk_from, mk_extract, e1, e2]
    simp
  | succ d ih =>
    intro k i hi hk ho
    obtain ⟨k, rfl⟩ : ∃ q, k = q + 1 := ⟨k - 1, by omega⟩
    have hlt : i < l.length := by omega
    simp only [labels_reader_name.l0]
    rw [if_pos (by rw [mk_size]; omega), if_pos (by omega), bt_mk l i hlt, letter_eq1 _ _ k (by omega)]
    simp only [Option.bind_some]
    cases hc : okN l[i] with
    | true =>
      rw [if_pos (show chk ((l[i]).toNat : Int) false = true from hc), wrS (by omega), ih k (i + 1) (by omega) (by omega) (fun c hc' => by
        rw [List.take_succ_eq_append_getElem hlt, List.mem_append] at hc'
        rcases hc' with h | h
        · exact ho c h
        · rw [List.mem_singleton] at h; rw [h]; exact hc)]
    | false =>
      obtain ⟨e1, e2⟩ := fin i (by omega) ho (fun _ => hc)
      rw [if_neg (by unfold okN at hc; rw [hc]; decide), if_pos (by rw [mk_size]; omega), Int.toNat_natCast, mk_from, mk_extract, e1, e2]
      simp
theorem name_mk (l : List UInt8) (b : Bool) (hl : l.length ≤ 1000000000) : labels_reader_name.f ((mk l).size + 2) (mk l) b = some (mk (l.takeWhile okN), mk (l.dropWhile okN), b) :=
  name_l0 l b hl l.length _ 0 (by omega) (by rw [mk_size]; omega) (fun c h => by simp at h)
end Go.Proofs.Ytbfiacnmielajaa.P
namespace Go.Proofs.Ytbfiacnmielajaa.P
open Go.RowKit Go.Proofs.YtbfiacnmielajaaW.PrintWords Go.Proofs.YtbfiacnmielajaaW.PrintLast Go.Proofs.YtbfiacnmielajaaW.PrintMore
set_option linter.unusedVariables false
set_option linter.unusedSimpArgs false
def esc (c : UInt8) : List UInt8 := if c = 10 then [92, 110] else if c = 34 ∨ c = 92 then [92, c] else [c]
theorem nums1 (c : UInt8) : strOfNums [(c.toNat : Int)] = mk [c] := by
  apply ByteArray.ext
  simp [strOfNums, mk]
theorem nums_mk (l : List UInt8) : strOfNums (l.map fun c => (c.toNat : Int)) = mk l := by
  apply ByteArray.ext
  show ((l.map fun c => (c.toNat : Int)).map fun n => UInt8.ofNat n.toNat).toArray = l.toArray
  rw [List.map_map]
  congr 1
  conv => rhs; rw [← List.map_id l]
  exact List.map_congr_left (fun c _ => by simp)
theorem u8i {c d : UInt8} : ((c.toNat : Int) = (d.toNat : Int)) ↔ c = d := ⟨fun h => UInt8.toNat_inj.1 (by omega), fun h => by rw [h]⟩
theorem escB_esc (c : UInt8) : escB (c.toNat : Int) = mk (esc c) := by
  have h10 : ((c.toNat : Int) = 10) ↔ c = 10 := u8i (d := 10)
  have h34 : ((c.toNat : Int) = 34) ↔ c = 34 := u8i (d := 34)
  have h92 : ((c.toNat : Int) = 92) ↔ c = 92 := u8i (d := 92)
  unfold escB esc
  simp only [h10, h34, h92]
  by_cases a : c = 10
  · rw [if_pos a, if_pos a]; rfl
  · rw [if_neg a, if_neg a]
    by_cases b : c = 34 ∨ c = 92
    · rw [if_pos b, if_pos b, nums1]; exact mk_append [92] [c]
    · rw [if_neg b, if_neg b, nums1]
theorem quotL_mk (l : List UInt8) : ∀ (d i : Nat) (a : List UInt8), i + d = l.length → quotL (mk l) d i (mk a) = mk (a ++ (l.drop i).flatMap esc) := by
  intro d
  induction d with
  | zero => intro i a hi; simp only [quotL]; rw [List.drop_of_length_le (by omega)]; simp
  | succ d ih =>
    intro i a hi
    have hlt : i < l.length := by omega
    simp only [quotL]
    rw [bt_mk l i hlt, escB_esc, mk_append, ih (i + 1) _ (by omega), List.drop_eq_getElem_cons hlt, List.flatMap_cons, List.append_assoc]
theorem quoted_mk (l : List UInt8) : quotedR (mk l) = mk (34 :: (l.flatMap esc ++ [34])) := by
  unfold quotedR
  rw [mk_size]
  have := quotL_mk l l.length 0 [] (by omega)
  rw [show (⟨#[]⟩ : ByteArray) = mk [] from rfl, this]
  exact (congrArg (· ++ mk [34]) (mk_append [34] _)).trans (mk_append _ [34])
theorem cut1_mk (c : UInt8) (l : List UInt8) : cut1 (mk (c :: l)) = mk l := by unfold cut1; rw [mk_from]; rfl
theorem hp1_mk (c : UInt8) (l : List UInt8) (d : UInt8) : hp1 (mk (c :: l)) (d.toNat : Int) = decide (c = d) := by
  unfold hp1
  rw [bt_mk0, mk_size, decide_eq_true (by simp), Bool.true_and]
  exact decide_eq_decide.2 u8i
theorem hp1_nil (d : Int) : hp1 (mk []) d = false := rfl
def nums (l : List UInt8) : List Int := l.map fun c => (c.toNat : Int)
theorem nums_append (a b : List UInt8) : nums (a ++ b) = nums a ++ nums b := List.map_append
theorem valL_step (d : Nat) (c : UInt8) (l : List UInt8) (bad : Bool) (o : List Int) : valL (d + 1) (mk (c :: l)) bad o =
    if c = 34 then some (o, mk (c :: l), bad) else
    if c = 10 then valL d (mk l) true (o ++ [10]) else
    if c = 92 then
      (if hp1 (mk l) 110 = true then valL d (cut1 (mk l)) bad (o ++ [10]) else
       if hp1 (mk l) 34 = true then valL d (cut1 (mk l)) bad (o ++ [34]) else
       if hp1 (mk l) 92 = true then valL d (cut1 (mk l)) bad (o ++ [92]) else valL d (mk l) true (o ++ [92]))
    else valL d (mk l) bad (o ++ [(c.toNat : Int)]) := by
  have h10 : ((c.toNat : Int) = 10) ↔ c = 10 := u8i (d := 10)
  have h34 : ((c.toNat : Int) = 34) ↔ c = 34 := u8i (d := 34)
  have h92 : ((c.toNat : Int) = 92) ↔ c = 92 := u8i (d := 92)
  simp only [valL]
  rw [if_neg (by rw [mk_size]; simp), bt_mk0, cut1_mk]
  simp only [h10, h34, h92]
theorem valL_tot : ∀ (d : Nat) (l : List UInt8) (bad : Bool) (o : List UInt8), l.length < d → ∃ v rest b', valL d (mk l) bad (nums o) = some (nums (o ++ v), mk rest, b') ∧ rest.length ≤ l.length ∧ (b' = false → bad = false ∧ l = v.flatMap esc ++ rest) := by
  intro d
  induction d with
  | zero => intro l bad o h; omega
  | succ d ih =>
    intro l bad o hl
    have go : ∀ (l' : List UInt8) (b1 : Bool) (c : UInt8) (p : List UInt8), l'.length < d → l'.length ≤ l.length → (b1 = false → bad = false ∧ l = esc c ++ l') →
        ∃ v rest b', valL d (mk l') b1 (nums o ++ [(c.toNat : Int)]) = some (nums (o ++ v), mk rest, b') ∧ rest.length ≤ l.length ∧ (b' = false → bad = false ∧ l = v.flatMap esc ++ rest) := by
      intro l' b1 c p h1 h2 h3
      obtain ⟨v, rest, b', e, hr, hb⟩ := ih l' b1 (o ++ [c]) h1
      refine ⟨c :: v, rest, b', ?_, by omega, fun h => ?_⟩
      · rw [nums_append] at e
        rw [show nums o ++ [(c.toNat : Int)] = nums o ++ nums [c] from rfl, e]
        simp
      · obtain ⟨q1, q2⟩ := hb h
        obtain ⟨q3, q4⟩ := h3 q1
        exact ⟨q3, by rw [q4, q2, List.flatMap_cons, List.append_assoc]⟩
    cases l with
    | nil =>
      refine ⟨[], [], bad, ?_, by simp, fun h => ⟨h, by simp⟩⟩
      simp only [valL]
      rw [if_pos (show (mk []).size = 0 from rfl)]; simp
    | cons c l =>
      have hl' : l.length < d := by simp at hl; omega
      rw [valL_step]
      by_cases h34 : c = 34
      · rw [if_pos h34]
        exact ⟨[], c :: l, bad, by simp, by simp, fun h => ⟨h, by simp⟩⟩
      · rw [if_neg h34]
        by_cases h10 : c = 10
        · rw [if_pos h10]
          exact go l true 10 [] hl' (by simp) (fun h => by cases h)
        · rw [if_neg h10]
          by_cases h92 : c = 92
          · rw [if_pos h92]
            subst h92
            cases l with
            | nil =>
              rw [hp1_nil, hp1_nil, hp1_nil, if_neg (by decide), if_neg (by decide), if_neg (by decide)]
              exact go [] true 92 [] hl' (by simp) (fun h => by cases h)
            | cons a l =>
              have hl2 : l.length < d := by simp at hl'; omega
              have e1 : hp1 (mk (a :: l)) 110 = decide (a = 110) := hp1_mk a _ 110
              have e2 : hp1 (mk (a :: l)) 34 = decide (a = 34) := hp1_mk a _ 34
              have e3 : hp1 (mk (a :: l)) 92 = decide (a = 92) := hp1_mk a _ 92
              rw [e1, e2, e3, cut1_mk]
              by_cases a1 : a = 110
              · rw [if_pos (decide_eq_true a1)]
                exact go l bad 10 [] hl2 (by simp; omega) (fun h => ⟨h, by rw [a1]; rfl⟩)
              · rw [if_neg (by rw [decide_eq_false a1]; decide)]
                by_cases a2 : a = 34
                · rw [if_pos (decide_eq_true a2)]
                  exact go l bad 34 [] hl2 (by simp; omega) (fun h => ⟨h, by rw [a2]; rfl⟩)
                · rw [if_neg (by rw [decide_eq_false a2]; decide)]
                  by_cases a3 : a = 92
                  · rw [if_pos (decide_eq_true a3)]
                    exact go l bad 92 [] hl2 (by simp; omega) (fun h => ⟨h, by rw [a3]; rfl⟩)
                  · rw [if_neg (by rw [decide_eq_false a3]; decide)]
                    exact go (a :: l) true 92 [] hl' (by simp) (fun h => by cases h)
          · rw [if_neg h92]
            refine go l bad c [] hl' (by simp) (fun h => ⟨h, ?_⟩)
            unfold esc
            rw [if_neg h10, if_neg (fun h => h.elim h34 h92)]; rfl
theorem take1_mk (c d : UInt8) (l : List UInt8) (b : Bool) : labels_reader_take.f (mk (c :: l)) b (⟨#[d]⟩ : ByteArray) = some (if c = d then (mk l, b) else (mk (c :: l), true)) := by
  have := take_mk (c :: l) [d] b
  rw [show mk [d] = (⟨#[d]⟩ : ByteArray) from rfl] at this
  rw [this]
  congr 1
  have e : ([d].isPrefixOf (c :: l) = true) ↔ c = d := by simp [List.isPrefixOf]; exact eq_comm
  simp only [e]; rfl
theorem take1_nil (d : UInt8) (b : Bool) : labels_reader_take.f (mk []) b (⟨#[d]⟩ : ByteArray) = some (mk [], true) := by
  have := take_mk [] [d] b
  rw [show mk [d] = (⟨#[d]⟩ : ByteArray) from rfl] at this
  rw [this]; rfl
theorem take1_tot (d : UInt8) (l : List UInt8) (b : Bool) : ∃ rest b', labels_reader_take.f (mk l) b (⟨#[d]⟩ : ByteArray) = some (mk rest, b') ∧ rest.length ≤ l.length ∧ (b' = false → b = false ∧ l = d :: rest) := by
  cases l with
  | nil => exact ⟨[], true, take1_nil d b, by simp, fun h => by cases h⟩
  | cons c l =>
    by_cases h : c = d
    · exact ⟨l, b, by rw [take1_mk, if_pos h], by simp, fun hb => ⟨hb, by rw [h]⟩⟩
    · exact ⟨c :: l, true, by rw [take1_mk, if_neg h], by simp, fun hb => by cases hb⟩
theorem value_tot (l : List UInt8) (bad : Bool) (h : l.length ≤ 1000000) : ∃ v rest b', labels_reader_value.f (mk l) bad = some (mk v, mk rest, b') ∧ rest.length ≤ l.length ∧ (b' = false → bad = false ∧ l = 34 :: (v.flatMap esc ++ 34 :: rest)) := by
  unfold labels_reader_value.f
  rw [if_pos (by rw [mk_size]; exact h)]
  obtain ⟨r1, b1, e1, l1, k1⟩ := take1_tot 34 l bad
  rw [e1]
  simp only [Option.bind_some]
  obtain ⟨v, r2, b2, e2, l2, k2⟩ := valL_tot ((mk r1).size + 1) r1 b1 [] (by rw [mk_size]; omega)
  rw [show nums [] = [] from rfl] at e2
  rw [e2]
  simp only [Option.bind_some]
  obtain ⟨r3, b3, e3, l3, k3⟩ := take1_tot 34 r2 b2
  rw [e3]
  refine ⟨v, r3, b3, ?_, by omega, fun hb => ?_⟩
  · simp only [Option.bind_some, List.nil_append]
    rw [show strOfNums (nums v) = mk v from nums_mk v]
  · obtain ⟨p3, q3⟩ := k3 hb
    obtain ⟨p2, q2⟩ := k2 p3
    obtain ⟨p1, q1⟩ := k1 p2
    exact ⟨p1, by rw [q1, q2, q3]⟩
def sgL : Nat → List UInt8
  | 0 => [61]
  | 1 => [33, 61]
  | 2 => [94, 61]
  | _ => [42, 61]
theorem sgn_mk (i : Nat) : sgn i = mk (sgL i) := by
  match i with
  | 0 => rfl
  | 1 => rfl
  | 2 => rfl
  | n + 3 => rfl
theorem sign_tot (l : List UInt8) (bad : Bool) : ∃ (i : Nat) (rest : List UInt8) (b' : Bool), labels_reader_sign.f (mk l) bad = some ((i : Int), mk rest, b') ∧ i ≤ 3 ∧ rest.length ≤ l.length ∧ (b' = false → bad = false ∧ l = sgL i ++ rest) := by
  have key : ∀ (d i : Nat), i + d = 4 → ∃ (j : Nat) (rest : List UInt8) (b' : Bool), labels_reader_sign.l0 d i (mk l) bad = some ((j : Int), mk rest, b') ∧ j ≤ 3 ∧ rest.length ≤ l.length ∧ (b' = false → bad = false ∧ l = sgL j ++ rest) := by
    intro d
    induction d with
    | zero => intro i hi; exact ⟨0, l, true, rfl, by omega, by omega, fun h => by cases h⟩
    | succ d ih =>
      intro i hi
      simp only [labels_reader_sign.l0, sgn_mk, hp_mk, Option.bind_some, take_mk]
      by_cases hp : (sgL i).isPrefixOf l = true
      · rw [if_pos hp, if_pos hp]
        refine ⟨i, l.drop (sgL i).length, bad, rfl, by omega, by simp, fun hb => ⟨hb, ?_⟩⟩
        obtain ⟨t, ht⟩ := List.isPrefixOf_iff_prefix.1 hp
        rw [← ht]; simp
      · rw [if_neg hp]
        exact ih (i + 1) (by omega)
  exact key 4 0 (by omega)
theorem name_tot (l : List UInt8) (bad : Bool) (hl : l.length ≤ 1000000000) : ∃ n rest, labels_reader_name.f ((mk l).size + 2) (mk l) bad = some (mk n, mk rest, bad) ∧ l = n ++ rest :=
  ⟨_, _, name_mk l bad hl, List.takeWhile_append_dropWhile.symm⟩
end Go.Proofs.Ytbfiacnmielajaa.P
namespace Go.Proofs.Ytbfiacnmielajaa.P
open Go.RowKit Go.Proofs.YtbfiacnmielajaaW.PrintWords Go.Proofs.YtbfiacnmielajaaW.PrintLast Go.Proofs.YtbfiacnmielajaaW.PrintMore
set_option linter.unusedVariables false
set_option linter.unusedSimpArgs false
def bl (s : ByteArray) : List UInt8 := s.data.toList
theorem mk_bl (s : ByteArray) : mk (bl s) = s := mk_data s
theorem bl_mk (l : List UInt8) : bl (mk l) = l := mk_dtl l
theorem bl_size (s : ByteArray) : (bl s).length = s.size := by unfold bl; rw [Array.length_toList]; rfl
def pcL (x : Mt) : List UInt8 := bl x.f1 ++ (sgL x.f0.toNat ++ 34 :: ((bl x.f2).flatMap esc ++ [34]))
def bodyL : Bool → List Mt → List UInt8
  | _, [] => []
  | first, x :: r => (if first = true then [] else [44]) ++ (pcL x ++ bodyL false r)
def okK (x : Mt) : Prop := 0 ≤ x.f0 ∧ x.f0 ≤ 3
theorem allL_tot : ∀ (d : Nat) (o : List Mt) (l : List UInt8) (bad : Bool), 18 ≤ d + o.length → (17 ≤ o.length → bad = true) → 0 < d → l.length ≤ 1000000 →
    ∃ ms rest b', allL d o (mk l) bad = some (o ++ ms, mk rest, b') ∧ rest.length ≤ l.length ∧ (∀ x ∈ ms, x.f1.size ≤ l.length) ∧ (b' = false → bad = false ∧ l = bodyL (decide (o.length = 0)) ms ++ rest ∧ (∀ x ∈ ms, okK x) ∧ (o.length ≤ 16 → o.length + ms.length ≤ 16)) := by
  intro d
  induction d with
  | zero => intro o l bad h1 h2 h3; omega
  | succ d ih =>
    intro o l bad hd hb _ hl
    have stop : ∃ ms rest b', some (o, mk l, bad) = some (o ++ ms, mk rest, b') ∧ rest.length ≤ l.length ∧ (∀ x ∈ ms, x.f1.size ≤ l.length) ∧ (b' = false → bad = false ∧ l = bodyL (decide (o.length = 0)) ms ++ rest ∧ (∀ x ∈ ms, okK x) ∧ (o.length ≤ 16 → o.length + ms.length ≤ 16)) :=
      ⟨[], l, bad, by simp, by omega, fun x hx => by simp at hx, fun h => ⟨h, rfl, fun x hx => by simp at hx, fun h => by simpa using h⟩⟩
    simp only [allL]
    by_cases hbad : bad = true
    · rw [if_pos hbad]; exact stop
    · rw [if_neg hbad]
      by_cases h125 : hp1 (mk l) 125 = true
      · rw [if_pos h125]; exact stop
      · rw [if_neg h125]
        have ho : o.length ≤ 16 := by
          rcases Nat.lt_or_ge 16 o.length with h | h
          · exact absurd (hb h) hbad
          · exact h
        have hcm : ∃ r1 b1, (if o.length = 0 then some (mk l, bad) else labels_reader_take.f (mk l) bad (⟨#[44]⟩ : ByteArray)) = some (mk r1, b1) ∧ r1.length ≤ l.length ∧ (b1 = false → bad = false ∧ l = (if decide (o.length = 0) = true then [] else [44]) ++ r1) := by
          by_cases h0 : o.length = 0
          · rw [if_pos h0, if_pos (decide_eq_true h0)]
            exact ⟨l, bad, rfl, by omega, fun h => ⟨h, rfl⟩⟩
          · rw [if_neg h0, if_neg (by rw [decide_eq_false h0]; decide)]
            exact take1_tot 44 l bad
        obtain ⟨r1, b1, e1, l1, k1⟩ := hcm
        rw [e1]
        simp only [Option.bind_some]
        obtain ⟨n, r2, e2, k2⟩ := name_tot r1 b1 (by omega)
        rw [e2]
        simp only [Option.bind_some]
        have l2 : n.length + r2.length = r1.length := by rw [k2, List.length_append]
        obtain ⟨i, r3, b3, e3, hi, l3, k3⟩ := sign_tot r2 b1
        rw [e3]
        simp only [Option.bind_some]
        obtain ⟨v, r4, b4, e4, l4, k4⟩ := value_tot r3 b3 (by omega)
        rw [e4]
        simp only [Option.bind_some]
        have hrec := ih (o ++ [⟨(i : Int), mk n, mk v⟩]) r4 (if 16 < o.length + 1 then true else b4) (by simp; omega) (fun h => by simp at h; rw [if_pos (by omega)]) (by omega) (by omega)
        obtain ⟨ms, rest, b', e5, l5, n5, k5⟩ := hrec
        refine ⟨⟨(i : Int), mk n, mk v⟩ :: ms, rest, b', by rw [e5]; simp, by omega, ?_, ?_⟩
        · intro x hx
          rcases List.mem_cons.1 hx with rfl | hx
          · show (mk n).size ≤ _; rw [mk_size]; omega
          · have := n5 x hx; omega
        · intro h
          obtain ⟨q1, q2, q3, q4⟩ := k5 h
          have h16 : ¬ 16 < o.length + 1 := fun g => by rw [if_pos g] at q1; cases q1
          rw [if_neg h16] at q1
          obtain ⟨p1, p2⟩ := k4 q1
          obtain ⟨p3, p4⟩ := k3 p1
          obtain ⟨p5, p6⟩ := k1 p3
          refine ⟨p5, ?_, ?_, fun _ => ?_⟩
          · rw [show decide ((o ++ [(⟨(i : Int), mk n, mk v⟩ : Mt)]).length = 0) = false by simp] at q2
            conv => lhs; rw [p6, k2, p4, p2, q2]
            simp only [bodyL]
            unfold pcL
            simp [bl_mk, List.append_assoc]
          · intro x hx
            rcases List.mem_cons.1 hx with rfl | hx
            · exact ⟨by show (0 : Int) ≤ (i : Int); omega, by show (i : Int) ≤ 3; omega⟩
            · exact q3 x hx
          · have := q4 (by simp; omega)
            simp at this ⊢; omega
def txL (l : List Mt) : List UInt8 := 123 :: (bodyL true l ++ [125])
theorem all_tot (l : List UInt8) (hl : l.length ≤ 1000000) : ∃ ms rest b', labels_reader_all.f (mk l) false = some (ms, mk rest, b') ∧ (∀ x ∈ ms, x.f1.size ≤ l.length) ∧ (b' = false → l = txL ms ∧ (∀ x ∈ ms, okK x) ∧ ms.length ≤ 16) := by
  unfold labels_reader_all.f
  obtain ⟨r1, b1, e1, l1, k1⟩ := take1_tot 123 l false
  rw [e1]
  simp only [Option.bind_some]
  obtain ⟨ms, r2, b2, e2, l2, n2, k2⟩ := allL_tot 18 [] r1 b1 (by simp) (by simp) (by omega) (by omega)
  rw [e2]
  simp only [Option.bind_some, List.nil_append]
  obtain ⟨r3, b3, e3, l3, k3⟩ := take1_tot 125 r2 b2
  rw [e3]
  refine ⟨ms, r3, _, rfl, fun x hx => by have := n2 x hx; omega, fun hb => ?_⟩
  rw [mk_toList] at hb
  simp only [Bool.or_eq_false_iff, Bool.not_eq_false', beq_iff_eq] at hb
  obtain ⟨h1, h2⟩ := hb
  obtain ⟨p3, q3⟩ := k3 h1
  obtain ⟨p2, q2, q2', q2''⟩ := k2 p3
  obtain ⟨p1, q1⟩ := k1 p2
  refine ⟨?_, q2', by simpa using q2''⟩
  unfold txL
  rw [q1, q2, q3, h2]; rfl
theorem pieceM_mk (x : Mt) : pieceM x = mk (pcL x) := by
  unfold pieceM pcL
  have h := quoted_mk (bl x.f2)
  rw [mk_bl] at h
  rw [h, sgn_mk]
  conv => lhs; rw [← mk_bl x.f1]
  rw [mk_append, mk_append, List.append_assoc]
theorem textL_mk : ∀ (l : List Mt) (i : Nat) (a : List UInt8), textL i (mk a) (l.map rfM) = mk (a ++ bodyL (decide (i = 0)) l) := by
  intro l
  induction l with
  | nil => intro i a; simp [textL, bodyL]
  | cons x l ih =>
    intro i a
    rw [List.map_cons]
    simp only [textL, bodyL]
    have hp : pieceR (mk a) i (rfM x) = mk (a ++ ((if decide (i = 0) = true then [] else [44]) ++ pcL x)) := by
      have hq : (rfM x).f1 ++ sgn (rfM x).f0.toNat ++ quotedR (rfM x).f2 = mk (pcL x) := pieceM_mk x
      unfold pieceR
      rw [hq]
      by_cases h : i = 0
      · rw [if_pos h, if_pos (decide_eq_true h), mk_append]; rfl
      · rw [if_neg h, if_neg (by rw [decide_eq_false h]; decide)]
        have : mk a ++ (⟨#[44]⟩ : ByteArray) = mk (a ++ [44]) := mk_append a [44]
        rw [this, mk_append, List.append_assoc]
    rw [hp, ih, show decide (i + 1 = 0) = false by simp]
    simp [List.append_assoc]
theorem textR_mk (l : List Mt) : textR (l.map rfM) = mk (txL l) := by
  unfold textR txL
  have := textL_mk l 0 [123]
  rw [show (⟨#[123]⟩ : ByteArray) = mk [123] from rfl, this]
  exact mk_append _ [125]
end Go.Proofs.Ytbfiacnmielajaa.P
namespace Go.Proofs.Ytbfiacnmielajaa.P
open Go.RowKit Go.Proofs.YtbfiacnmielajaaW.PrintWords Go.Proofs.YtbfiacnmielajaaW.PrintLast Go.Proofs.YtbfiacnmielajaaW.PrintMore
set_option linter.unusedVariables false
set_option linter.unusedSimpArgs false
theorem chk_false {c : Int} {f : Bool} (h : chk c f = true) : chk c false = true := by
  unfold chk at *
  by_cases h1 : 48 ≤ c ∧ c ≤ 57
  · rw [if_pos h1]; rfl
  · rw [if_neg h1] at h ⊢; exact h
theorem nameL_ok (l : List UInt8) : ∀ (d i : Nat), i + d = l.length → nameL (mk l) d i = true → ∀ c ∈ l.drop i, okN c = true := by
  intro d
  induction d with
  | zero => intro i hi _ c hc; rw [List.drop_of_length_le (by omega)] at hc; simp at hc
  | succ d ih =>
    intro i hi h c hc
    have hlt : i < l.length := by omega
    simp only [nameL, Bool.and_eq_true] at h
    rw [bt_mk l i hlt] at h
    rw [List.drop_eq_getElem_cons hlt] at hc
    rcases List.mem_cons.1 hc with rfl | hc
    · exact chk_false h.1
    · exact ih (i + 1) (by omega) h.2 c hc
theorem nameR_ok {s : ByteArray} (h : nameR s = true) : s.size ≤ 40 ∧ ∀ c ∈ bl s, okN c = true := by
  have h' := h
  unfold nameR at h'
  simp only [Bool.and_eq_true, decide_eq_true_eq] at h'
  refine ⟨h'.2.1, ?_⟩
  have := nameL_ok (bl s) s.size 0 (by rw [bl_size]; omega) (by rw [mk_bl]; exact h'.2.2)
  simpa using this
def okR (x : Rm) : Prop := 0 ≤ x.f0 ∧ x.f0 ≤ 3 ∧ nameR x.f1 = true ∧ x.f2.size ≤ 200
theorem chkL_zero : ∀ (l : List Rm) (p : Option ByteArray), chkL 0 p l = 0 → ∀ x ∈ l, okR x := by
  intro l
  induction l with
  | nil => intro p h x hx; simp at hx
  | cons y l ih =>
    intro p h x hx
    simp only [chkL] at h
    by_cases h0 : y.f0 < 0 ∨ y.f0 > 3
    · rw [if_pos ⟨trivial, h0⟩] at h; omega
    · rw [if_neg (fun e => h0 e.2)] at h
      by_cases h1 : nameR y.f1 = true
      · rw [if_pos h1] at h
        by_cases h2 : y.f2.size ≤ 200
        · rw [if_pos h2, if_neg (fun e => absurd e.1 (by decide))] at h
          rcases List.mem_cons.1 hx with rfl | hx
          · exact ⟨by omega, by omega, h1, h2⟩
          · exact ih _ h x hx
        · rw [if_neg h2] at h; omega
      · rw [if_neg h1] at h; omega
theorem checkR_zero {l : List Rm} (h : checkR 0 l = 0) : l.length ≤ 16 ∧ ∀ x ∈ l, okR x := by
  unfold checkR at h
  by_cases h1 : l.length > 16
  · rw [if_pos h1] at h; omega
  · rw [if_neg h1] at h; exact ⟨by omega, chkL_zero l none h⟩
theorem name_small {l : List Mt} (h : checkR 0 (l.map rfM) = 0) : ∀ x ∈ l, x.f1.size ≤ 40 := fun x hx =>
  (nameR_ok ((checkR_zero h).2 (rfM x) (List.mem_map_of_mem hx)).2.2.1).1
theorem parseM_tot (l : List UInt8) (hl : l.length ≤ 2400) : ∃ ms e, labels_ParseMatchers.f (mk l) = some (ms, e) ∧ ((e = 0 ∧ l = txL ms ∧ checkR 0 (ms.map rfM) = 0) ∨ (e = 10 ∧ ms = [])) := by
  unfold labels_ParseMatchers.f
  obtain ⟨ms, rest, b', e, hn, hb⟩ := all_tot l (by omega)
  rw [e]
  simp only [Option.bind_some]
  cases b' with
  | true => exact ⟨[], 10, by rw [if_pos rfl], .inr ⟨rfl, rfl⟩⟩
  | false =>
    rw [if_neg (by decide), checkM_eq ms (fun _ x hx => by have := hn x hx; omega) 3000 (by omega)]
    simp only [Option.bind_some]
    by_cases h : checkR 0 (ms.map rfM) = 0
    · exact ⟨ms, 0, by rw [if_pos h], .inl ⟨rfl, (hb rfl).1, h⟩⟩
    · exact ⟨[], 10, by rw [if_neg h], .inr ⟨rfl, rfl⟩⟩
theorem okM_of {x : Rm} (h : okR x) : okM x.f0 x.f1 x.f2 := ⟨h.1, h.2.1, by have := (nameR_ok h.2.2.1).1; omega, by have := h.2.2.2; omega⟩
theorem refText_eq (l : List Mt) (h : checkR 0 (l.map rfM) = 0) : tidepoleref30_Text.f (l.map rfM) = some (mk (txL l)) := by
  obtain ⟨h1, h2⟩ := checkR_zero h
  unfold tidepoleref30_Text.f
  rw [if_pos ⟨by omega, fun x hx => okM_of (h2 x hx)⟩, textR_mk]
def toL (x : Mt) : Lb := ⟨x.f1, x.f2⟩
theorem toL_rf {l : List Mt} (h : ∀ x ∈ l, x.f0 = 0) : (l.map toL).map rfL = l.map rfM := by
  rw [List.map_map]
  exact List.map_congr_left (fun x hx => by
    have := h x hx
    obtain ⟨a, b, c⟩ := x
    simp only at this
    subst this; rfl)
theorem parse_l0 (ms : List Mt) (hm : ms.length ≤ 16) (hn : ∀ x ∈ ms, x.f1.size ≤ 2500) : ∀ (d k i : Nat), i + d = ms.length → d + 2701 < k → (∀ x ∈ ms.take i, x.f0 = 0) →
    labels_Parse.l0 k ((ms.take i).map toL) ms (ms.length : Int) (i : Int) = some (if (∀ x ∈ ms, x.f0 = 0) ∧ checkR 1 (ms.map rfM) = 0 then (ms.map toL, 0) else ([], 10)) := by
  intro d
  induction d with
  | zero =>
    intro k i hi hk ht
    obtain ⟨k, rfl⟩ : ∃ q, k = q + 1 := ⟨k - 1, by omega⟩
    rw [List.take_of_length_le (by omega)] at ht ⊢
    simp only [labels_Parse.l0]
    rw [if_neg (by omega), checkL_eq (ms.map toL) (fun _ x hx => by obtain ⟨y, hy, rfl⟩ := List.mem_map.1 hx; exact hn y hy) k (by omega), toL_rf ht]
    simp only [Option.bind_some]
    by_cases h : checkR 1 (ms.map rfM) = 0
    · rw [if_pos h, if_pos ⟨ht, h⟩]
    · rw [if_neg h, if_neg (fun e => h e.2)]
  | succ d ih =>
    intro k i hi hk ht
    obtain ⟨k, rfl⟩ : ∃ q, k = q + 1 := ⟨k - 1, by omega⟩
    have hlt : i < ms.length := by omega
    simp only [labels_Parse.l0]
    rw [if_pos (by omega), if_pos (by omega), if_pos (by omega), rdM_ ms i hlt, wrS (by omega)]
    by_cases h0 : ms[i].f0 = 0
    · rw [if_pos h0, if_pos (by simp; omega), ← ih k (i + 1) (by omega) (by omega) (fun x hx => by
        rw [List.take_succ_eq_append_getElem hlt, List.mem_append] at hx
        rcases hx with h | h
        · exact ht x h
        · rw [List.mem_singleton] at h; rw [h]; exact h0), List.take_succ_eq_append_getElem hlt, List.map_append]
      rfl
    · rw [if_neg h0, if_neg (fun e => h0 (e.1 _ (List.getElem_mem hlt)))]
theorem parse_of {s : ByteArray} {ms : List Mt} {e : Int} (h : labels_ParseMatchers.f s = some (ms, e)) (k : Nat) (hk : 3000 < k) (hm : e = 0 → checkR 0 (ms.map rfM) = 0) :
    labels_Parse.f k s = some (if e = 0 then (if (∀ x ∈ ms, x.f0 = 0) ∧ checkR 1 (ms.map rfM) = 0 then (ms.map toL, 0) else ([], 10)) else ([], e)) := by
  unfold labels_Parse.f
  rw [h]
  simp only [Option.bind_some]
  by_cases h0 : e = 0
  · rw [if_pos h0, if_pos h0]
    have hc := hm h0
    have h1 := (checkR_zero hc).1
    rw [List.length_map] at h1
    exact parse_l0 ms h1 (fun x hx => by have := name_small hc x hx; omega) ms.length k 0 (by omega) (by omega) (fun x hx => by simp at hx)
  · rw [if_neg h0, if_neg h0]
end Go.Proofs.Ytbfiacnmielajaa.P
namespace Go.Proofs.Ytbfiacnmielajaa.P
open Go.RowKit Go.Proofs.YtbfiacnmielajaaW.PrintWords Go.Proofs.YtbfiacnmielajaaW.PrintLast Go.Proofs.YtbfiacnmielajaaW.PrintMore
set_option linter.unusedVariables false
set_option linter.unusedSimpArgs false
instance decRm : DecidableEq Rm := fun x y => decidable_of_iff (x.f0 = y.f0 ∧ x.f1 = y.f1 ∧ x.f2 = y.f2) (by
  obtain ⟨a, b, c⟩ := x
  obtain ⟨d, e, g⟩ := y
  simp)
end Go.Proofs.Ytbfiacnmielajaa.P
namespace Go.Proofs.Ytbfiacnmielajaa.P
open Go.RowKit Go.Proofs.YtbfiacnmielajaaW.PrintWords Go.Proofs.YtbfiacnmielajaaW.PrintLast Go.Proofs.YtbfiacnmielajaaW.PrintMore
set_option linter.unusedVariables false
set_option linter.unusedSimpArgs false
theorem e0 : (⟨#[]⟩ : ByteArray).toList = [] := by rw [Go.ByteArray.toList_eq]
theorem parses_l0 (ms : List Mt) (hm : ms.length ≤ 16) (hx : ¬ ∀ x ∈ ms, x.f0 = 0) : ∀ (d k i : Nat), i + d = ms.length → d < k → (∀ x ∈ ms.take i, x.f0 = 0) → tidepolelaw30_LabelsParses.l0 k ms (ms.length : Int) (i : Int) = some true := by
  intro d
  induction d with
  | zero =>
    intro k i hi hk ht
    rw [List.take_of_length_le (by omega)] at ht
    exact absurd ht hx
  | succ d ih =>
    intro k i hi hk ht
    obtain ⟨k, rfl⟩ : ∃ q, k = q + 1 := ⟨k - 1, by omega⟩
    have hlt : i < ms.length := by omega
    simp only [tidepolelaw30_LabelsParses.l0]
    rw [if_pos (by omega), if_pos (by omega), if_pos (by omega), rdM_ ms i hlt, wrS (by omega)]
    by_cases h0 : ms[i].f0 = 0
    · rw [if_pos h0, ih k (i + 1) (by omega) (by omega) (fun x hx => by
        rw [List.take_succ_eq_append_getElem hlt, List.mem_append] at hx
        rcases hx with h | h
        · exact ht x h
        · rw [List.mem_singleton] at h; rw [h]; exact h0)]
    · rw [if_neg h0]; rfl
theorem labelsParses_f (s : ByteArray) : tidepolelaw30_LabelsParses.f 10000 s = some true := by
  unfold tidepolelaw30_LabelsParses.f
  by_cases hz : (s.size : Int) > 2000
  · rw [if_pos hz]; rfl
  · rw [if_neg hz]
    obtain ⟨ms, e, hp, hc⟩ := parseM_tot (bl s) (by rw [bl_size]; omega)
    rw [mk_bl] at hp
    have hP := fun hm => parse_of hp 10000 (by omega) hm
    rcases hc with ⟨rfl, ht, h0⟩ | ⟨rfl, rfl⟩
    · obtain ⟨h1, h2⟩ := checkR_zero h0
      rw [List.length_map] at h1
      have hs : mk (txL ms) = s := by rw [← ht, mk_bl]
      have hP := hP (fun _ => h0)
      rw [if_pos rfl] at hP
      have hR : ∀ k, 16 < k → tidepolelaw30_refs.f k ms = some (ms.map rfM) := fun k hk => refs_eq ms (by omega) k (by omega)
      have hC : ∀ k, 40 < k → tidepoleref30_Check.f k (ms.map rfM) 0 = some 0 := fun k hk => by rw [check_eq _ 0 (.inl rfl) k hk, h0]
      have hC1 : ∀ k, 40 < k → tidepoleref30_Check.f k (ms.map rfM) 1 = some (checkR 1 (ms.map rfM)) := fun k hk => check_eq _ 1 (.inr rfl) k hk
      have hT := refText_eq ms h0
      rw [hs] at hT
      by_cases hk : (∀ x ∈ ms, x.f0 = 0) ∧ checkR 1 (ms.map rfM) = 0
      · rw [if_pos hk] at hP
        have hr : (ms.map toL).map rfL = ms.map rfM := toL_rf hk.1
        have hL : ∀ k, 16 < k → tidepolelaw30_ref.f k (ms.map toL) = some (ms.map rfM) := fun k hk => by rw [ref_eq _ (by simp; omega) k (by simp; omega), hr]
        rw [hP, hp]
        simp [tidepolelaw30_LabelsParses.j0, tidepolelaw30_LabelsParses.j1, hR, hC, hC1, hL, hT, hk.2, tidepolelaw30_awake.f]
      · rw [if_neg hk] at hP
        rw [hP, hp]
        simp [tidepolelaw30_LabelsParses.j0, tidepolelaw30_LabelsParses.j1, tidepolelaw30_LabelsParses.j2, hR, hC, hC1, hT, tidepolelaw30_awake.f]
        intro h3
        exact parses_l0 ms h1 (fun h => hk ⟨h, h3⟩) ms.length _ 0 (by omega) (by omega) (fun x hx => by simp at hx)
    · have hP := hP (fun h => absurd h (by decide))
      rw [if_neg (by decide)] at hP
      rw [hP, hp]
      simp [tidepolelaw30_LabelsParses.j0, tidepolelaw30_LabelsParses.j1, tidepolelaw30_LabelsParses.j2, tidepolelaw30_awake.f]
end Go.Proofs.Ytbfiacnmielajaa.P
namespace Go.Proofs.Ytbfiacnmielajaa.P
set_option linter.unusedVariables false
theorem Pure.LabelsParses (x0 : ByteArray) (w0 : wfStr x0) : ∃ k, tidepolelaw30_LabelsParses.f k x0 = some true := ⟨_, labelsParses_f x0⟩
end Go.Proofs.Ytbfiacnmielajaa.P
namespace Go.Proofs.Ytbfiacnmielajaa.labelsParses
open Go.ChangeShapes Go.WideShapes Go.ChangeAt Go.RowKit Go.Proofs.Ytbfiacnmielajaa.P Go.Proofs.YtbfiacnmielajaaW.PrintWords
set_option linter.unusedVariables false
theorem own : ownKnob Try.prog.godebug = none := by kernel_rfl
theorem laidOut : laidOutB Try.prog = true := by kernel_rfl
set_option maxRecDepth 100000 in
set_option maxHeartbeats 4000000 in
theorem lifted (os : Os) (started : os.Started) (H : Type) (enc : TypeId × Value → H) :
    ReturnsInHanded {} Try.checked os 4 .any (Rows.labelsParsesSpec.pre6 enc Try.prog Try.f4 Rows.labelsParsesRow.domain false) (Rows.labelsParsesSpec.post enc Try.prog Try.f4 false true false false) := by
  refine returnsInHanded_of_change_sized (C := Try.checked) own started (by kernel_rfl) Try.func4
    (ChangeSpec.witness6 (enc := enc) (C := Try.checked) false ⟨#[], #[.string ByteArray.empty], []⟩ 8 (by kernel_rfl) (by kernel_rfl) (by kernel_rfl) (by kernel_rfl)) ?_
  intro W base args ds gs before hval0 hW hcnd hsz0 _
  have hval : ∀ (j : Nat) t v, Try.f4.params[j]? = some t → args[j]? = some v → Value.okWide Try.prog W .any base t v := hval0
  have hW' := hW
  obtain ⟨p, q, hA0, hV, rfl, hfz, hnd⟩ := hW
  have hA : DataW.TrodAll enc Try.prog W 0 (fun _ => true) true Try.f4.params.toList args.toList ds p := hA0
  rw [Try.params4] at hA hval
  obtain ⟨v0, vs0, d0, ds0, p0, q0, hargs, rfl, rfl, h0, r0⟩ := trodAll_cons hA
  obtain ⟨rfl, rfl, rfl⟩ := trodAll_nil r0
  obtain rfl : args = #[v0] := by cases args; simp_all
  obtain ⟨rfl, rfl⟩ := trodVars_none hV
  obtain ⟨a0, rfl, rfl, rfl, w0⟩ := Go.ChangeMaps.open_string Try.underlying9 (hval 0 9 v0 rfl rfl) h0
  clear hA0 hval0 hsz0
  obtain ⟨k, hk⟩ := Pure.LabelsParses a0 w0
  refine (P.tidepolelaw30_LabelsParses.calls k a0 true W  hk).mono fun e W' ⟨he, bel⟩ => ?_
  subst he
  exact ⟨_, rfl, _, _, _, [], _, [], hW', trodAll_mk1 (shut_bool Try.underlying4 _), (trodAll_cons_mk (Go.ChangeMaps.shut_string Try.underlying9 w0) trodAll_mk0), rfl, bel.frame _, fun h => by cases h⟩
theorem cf0 : (Rows.labelsParsesRow.wf (OpenSpec.ofChange Rows.labelsParsesSpec)) = true := by kernel_rfl
theorem cf1 : (laidOutB Try.prog) = true := P.head_laidOut
theorem cf2 : (mapsRowed Try.prog) = true := P.head_mapsRowed
theorem cf3 : (Try.f4.params.all (Try.prog.readableRec ·)) = true := by kernel_rfl
theorem cf4 : (namedTie Try.prog Rows.labelsParsesRow.named Rows.labelsParsesSpec.vars) = true := by kernel_rfl
theorem cf5 : ((Rows.labelsParsesRow.stops == [])) = true := by kernel_rfl
theorem cf6 : ((Try.prog.stops == [])) = true := P.head_stops
theorem cf7 : ((Rows.labelsParsesRow.knobs == [])) = true := by kernel_rfl
theorem cf8 : ((Try.prog.stopKnobs == [])) = true := P.head_stopKnobs
theorem cf9 : ((Rows.labelsParsesRow.inPlace == Try.prog.inPlace 4)) = true := by kernel_rfl
theorem cf10 : ((Rows.labelsParsesRow.unfollowed == Try.prog.unfollowed 4)) = true := by kernel_rfl
theorem cf11 : ((Rows.labelsParsesRow.recurses == Try.prog.recurses 4)) = true := by kernel_rfl
theorem cf12 : ((Rows.labelsParsesRow.named == Try.prog.varsNamed 4)) = true := by kernel_rfl
theorem cf13 : ((Rows.labelsParsesRow.maps == (Try.f4.params.toList ++ Rows.labelsParsesSpec.plain.varTypes Try.prog).any (Try.prog.mapsRec ·))) = true := by kernel_rfl
theorem cf14 : ((Rows.labelsParsesRow.ifaces == (Try.f4.params.toList ++ Rows.labelsParsesSpec.plain.varTypes Try.prog).any (Try.prog.ifacesRec ·))) = true := by kernel_rfl
theorem cf15 : ((Rows.labelsParsesRow.mapsOut == Try.prog.mapsAmong Try.f4.resultTypes.toList)) = true := by kernel_rfl
theorem cf16 : ((Rows.labelsParsesRow.loops == (Try.f4.params.toList ++ Rows.labelsParsesSpec.plain.varTypes Try.prog).any (Try.prog.loopsFrom ·))) = true := by kernel_rfl
theorem cf17 : ((Rows.labelsParsesRow.wideKeys == (Try.f4.params.toList ++ Rows.labelsParsesSpec.plain.varTypes Try.prog ++ Try.f4.resultTypes.toList).any (Try.prog.wideKeysFrom ·))) = true := by kernel_rfl
theorem cf18 : (Rows.labelsParsesSpec.vars.all (Try.prog.varReadable ·)) = true := by kernel_rfl
theorem cf19 : (Try.f4.resultTypes.all (fun t => Try.prog.readableRec t && decide (t < Try.prog.types.size))) = true := by kernel_rfl
theorem cf20 : ((Rows.labelsParsesRow.ifacesOut == Try.f4.resultTypes.toList.any (Try.prog.ifacesRec ·))) = true := by kernel_rfl
theorem cf21 : ((Rows.labelsParsesRow.loopsOut == Try.f4.resultTypes.toList.any (Try.prog.loopsFrom ·))) = true := by kernel_rfl
theorem cf22 : ((Rows.labelsParsesRow.plainKeys == Try.prog.plainKeys)) = true := by rw [P.head_plainKeys]; kernel_rfl
theorem cf23 : (Rows.labelsParsesRow.shortTexts.isNone) = true := by kernel_rfl
theorem cf24 : (Try.prog.stopsHeard) = true := P.head_stopsHeard
theorem cf25 : (Try.prog.mayEnter) = true := P.head_mayEnter
theorem cf26 : ((Rows.labelsParsesRow.lifted == Try.prog.liftsFinal)) = true := by rw [P.head_liftsFinal]; kernel_rfl
theorem cf27 : ((Try.prog.make == some Rows.labelsParsesRow.make)) = true := by rw [P.head_make]; kernel_rfl
theorem cf28 : ((Rows.labelsParsesRow.kinds == (if Rows.labelsParsesRow.domain.isEmpty then [] else Try.f4.params.toList.map fun t => match Try.prog.underlying t with | some (.int k) => some k | _ => none))) = true := by kernel_rfl
theorem cf29 : ((Rows.labelsParsesRow.pinned == Rows.labelsParsesRow.pinnedBy)) = true := by kernel_rfl
theorem cf30 : ((Rows.labelsParsesRow.veiled == (Try.f4.params.toList ++ Rows.labelsParsesSpec.plain.varTypes Try.prog ++ Try.f4.resultTypes.toList).any (Try.prog.veiledRec ·))) = true := by kernel_rfl
theorem cf31 : (Rows.labelsParsesRow.veiledFits Try.prog Try.f4.params.toList (Try.f4.params.toList ++ Rows.labelsParsesSpec.plain.varTypes Try.prog ++ Try.f4.resultTypes.toList)) = true := by kernel_rfl
theorem band_mk {a b : Bool} (h : a = true) (k : b = true) : (a && b) = true := by rw [h, k]; rfl
theorem closed : joinedFacts Try.prog 4 Try.f4 Rows.labelsParsesSpec Rows.labelsParsesRow = true := by unfold joinedFacts; exact (band_mk (band_mk (band_mk (band_mk (band_mk (band_mk (band_mk (band_mk (band_mk (band_mk (band_mk (band_mk (band_mk (band_mk (band_mk (band_mk (band_mk (band_mk (band_mk (band_mk (band_mk (band_mk (band_mk (band_mk (band_mk (band_mk (band_mk (band_mk (band_mk (band_mk (band_mk cf0 cf1) cf2) cf3) cf4) cf5) cf6) cf7) cf8) cf9) cf10) cf11) cf12) cf13) cf14) cf15) cf16) cf17) cf18) cf19) cf20) cf21) cf22) cf23) cf24) cf25) cf26) cf27) (by kernel_rfl)) cf29) cf30) cf31)
theorem over : Rows.labelsParsesRow.holds Try.pinned (OpenSpec.ofChange Rows.labelsParsesSpec) :=
  OpenClaim.holds_of_wide 4 Try.f4 rfl rfl rfl rfl rfl rfl rfl ⟨rfl, rfl, rfl, rfl, rfl⟩ rfl rfl rfl rfl rfl (by kernel_rfl) Try.func4 closed
    (of_decide_eq_true (by kernel_rfl)) (by unfold Func.isWrapper; first | (rw [if_pos (by decide +kernel)]; kernel_rfl) | (rw [if_neg (by decide +kernel)]; exact ⟨rfl, rfl⟩))
    (fun os started H enc _ => lifted os started H enc)
theorem proved : Rows.LabelsParsesSaid := over
#print axioms proved
end Go.Proofs.Ytbfiacnmielajaa.labelsParses
namespace Go.Proofs.Ytbfiacnmielajaa
theorem labelsParses_holds : Rows.LabelsParsesSaid := labelsParses.proved
end Go.Proofs.Ytbfiacnmielajaa
