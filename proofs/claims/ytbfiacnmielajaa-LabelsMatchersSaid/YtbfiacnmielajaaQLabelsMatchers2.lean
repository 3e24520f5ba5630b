/- LabelsMatchers: the part that this text bears of the proof that the statement answers true for every input. No condition. -/
import Derived.Test.YtbfiacnmielajaaProg
import Derived.Below
import Derived.Deep.Draws
import Derived.Deep.AppendLies
import Derived.Maps.AppendAt
import Derived.OwnWalk
import Derived.Laws.BytesArg
import Derived.Laws.MakeOwn
import Derived.Laws.OwnMore
import Derived.Deep.OwnRows
import Derived.Tactics
import Derived.Lib.ConvBytes
import Derived.Laws.Slices
import Derived.WalkKit
import Derived.KernelRfl
import Derived.RowKit3
import Derived.Deep.LoopGhost
import Derived.Deep.QuietTactic
import Derived.BigQuiet
import Derived.WideLaws
import Derived.Deep.DeepCutAuto
import Derived.Deep.CutBlock
import Derived.Deep.RegionHeld3
import Derived.Laws.Rows
import Derived.Lib.AppendStr
import Derived.ArgAppend
import Derived.Laws.IdiomCopy
import Derived.OrdersHeld
import Derived.Laws.BitsLemmas
import Derived.RowKit
import Derived.Laws.Strings
import Derived.Laws.Cover1
import Derived.Shelf.Lays
import Derived.Shelf.Strings.Builder1
import Derived.Shelf.Strings.OnBuilder
import Derived.DataReads
import Derived.RegionTactic
import Derived.ChangeKeysEq
import Derived.ChangeAlike
import Derived.BigRegion
import Derived.StillTailTactics
import Derived.Shelf.Strings.Search3
import Derived.Shelf.Small.Strs
import Derived.Deep.Slices
import Derived.ChangeArms
import Derived.ProofKit
import Derived.JoinedOf
import Derived.OpenShut
import Derived.ShutString
import Derived.ChangeOld
import Derived.SizedLaws
import Derived.Test.YtbfiacnmielajaaQLabelsMatchersWWords
import Derived.Test.YtbfiacnmielajaaQLabelsMatchersWLast
import Derived.Test.YtbfiacnmielajaaQLabelsMatchersWTab
import Derived.Test.YtbfiacnmielajaaQLabelsMatchersWFour
import Derived.Test.YtbfiacnmielajaaQLabelsMatchersWQPut
import Derived.Test.YtbfiacnmielajaaQLabelsMatchersWApart
import Derived.Test.YtbfiacnmielajaaQLabelsMatchersWArr
import Derived.Test.YtbfiacnmielajaaQLabelsMatchersWZeros
import Derived.Test.YtbfiacnmielajaaQLabelsMatchersWFoot
import Derived.Test.YtbfiacnmielajaaQLabelsMatchersWKept
import Derived.Test.YtbfiacnmielajaaQLabelsMatchersWShare
import Derived.Test.YtbfiacnmielajaaQLabelsMatchersWN
import Derived.Test.YtbfiacnmielajaaQLabelsMatchersWFootNe
import Derived.Test.YtbfiacnmielajaaQLabelsMatchersWAt
import Derived.Test.YtbfiacnmielajaaQLabelsMatchersWEqStruct
import Derived.Test.YtbfiacnmielajaaQLabelsMatchersWRepsOne
import Derived.Test.YtbfiacnmielajaaQLabelsMatchersWInv
import Derived.Test.YtbfiacnmielajaaQLabelsMatchersWInvWords
import Derived.Test.YtbfiacnmielajaaQLabelsMatchersWGuard
import Derived.Test.YtbfiacnmielajaaQLabelsMatchersWNEv
import Derived.Test.YtbfiacnmielajaaQLabelsMatchersWMore
import Derived.Test.YtbfiacnmielajaaRows
import Derived.Test.YtbfiacnmielajaaQLabelsMatchers0
import Derived.Test.YtbfiacnmielajaaQLabelsMatchers1
namespace Go.Proofs.Ytbfiacnmielajaa.P
open Go.RowKit Go.Proofs.YtbfiacnmielajaaW.PrintWords Go.Proofs.YtbfiacnmielajaaW.PrintLast Go.Proofs.YtbfiacnmielajaaW.PrintMore
attribute [local go_sem] max2_int min2_int max_two min_two max_three min_three max_four min_four
set_option linter.unusedVariables false
set_option linter.unusedSimpArgs false
attribute [local go_sem high] leq_str gtr_str
def tidepolelaw30_LabelsMatchers.j0 : Nat → List (S59) → Int → ByteArray → Bool → Option (Bool)
 | 0, _, _, _, _ => none
 | k + 1, x3, x4, x5, x30 => if x30 = true then (some false) else (if x4 = 0 then ((labels_ParseMatchers.f x5).bind fun bt111 => ((tidepoleref30_Text.f x3).bind fun t115 => (if x5.toList = t115.toList then (if bt111.2 = 0 then ((tidepolelaw30_refs.f k bt111.1).bind fun t116 => ((tidepolelaw30_same.f k t116 x3).bind fun t119 => (if t119 = true then ((tidepolelaw30_awake.f).bind fun t120 => (some t120)) else (some false)))) else (some false)) else (some false)))) else (if x5.toList = ([] : List UInt8) then ((tidepolelaw30_awake.f).bind fun t110 => (some t110)) else (some false)))
def tidepolelaw30_LabelsMatchers.f (k : Nat) (l0 : List (S42)) : Option (Bool) := (tidepolelaw30_refs.f k l0).bind fun t101 => ((tidepolelaw30_small.f k t101).bind fun t104 => (if t104 = true then ((tidepoleref30_Check.f k t101 0).bind fun t106 => ((labels_TextMatchers.f l0).bind fun bt107 => ((labels_CheckMatchers.f k l0).bind fun t109 => (if t109 = t106 then (tidepolelaw30_LabelsMatchers.j0 k t101 t106 bt107.1 (bt107.2 != t106)) else (tidepolelaw30_LabelsMatchers.j0 k t101 t106 bt107.1 true))))) else ((tidepolelaw30_awake.f).bind fun t105 => (some t105))))
set_option maxHeartbeats 8000000 in
set_option maxRecDepth 100000 in
theorem tidepolelaw30_LabelsMatchers.calls (k : Nat) (A0 : Option Addr) (c0 : Nat) (l0 : List (S42)) (r : Bool) (w : World) (hr0 : Kd.C k42 w A0 l0.length l0) (hc0 : l0.length ≤ c0) (h : tidepolelaw30_LabelsMatchers.f k l0 = some r) :
  Calls Try.prog 8 #[.slice A0 l0.length c0] w fun e w' => e = .returned (.bool r) ∧ Below w.heap.size w w' := by
 have HR0 := Aside0.mk hr0
 have HC0 := Aside0.mk hc0
 clear hr0 hc0
 have HB := Aside0.mk (Below.refl w.heap.size w)
 have H : ((tidepolelaw30_refs.f k l0).bind fun t101 => ((tidepolelaw30_small.f k t101).bind fun t104 => (if t104 = true then ((tidepoleref30_Check.f k t101 0).bind fun t106 => ((labels_TextMatchers.f l0).bind fun bt107 => ((labels_CheckMatchers.f k l0).bind fun t109 => (if t109 = t106 then (tidepolelaw30_LabelsMatchers.j0 k t101 t106 bt107.1 (bt107.2 != t106)) else (tidepolelaw30_LabelsMatchers.j0 k t101 t106 bt107.1 true))))) else ((tidepolelaw30_awake.f).bind fun t105 => (some t105))))) = some r := h
 clear h
 replace H := Option.bind_eq_some_iff.mp H
 obtain ⟨t101, A20, H⟩ := H
 replace H : ((tidepolelaw30_small.f k t101).bind fun t104 => (if t104 = true then ((tidepoleref30_Check.f k t101 0).bind fun t106 => ((labels_TextMatchers.f l0).bind fun bt107 => ((labels_CheckMatchers.f k l0).bind fun t109 => (if t109 = t106 then (tidepolelaw30_LabelsMatchers.j0 k t101 t106 bt107.1 (bt107.2 != t106)) else (tidepolelaw30_LabelsMatchers.j0 k t101 t106 bt107.1 true))))) else ((tidepolelaw30_awake.f).bind fun t105 => (some t105)))) = some r := H
 have A2 := Aside0.mk A20
 clear A20
 replace H := Option.bind_eq_some_iff.mp H
 obtain ⟨t104, A30, H⟩ := H
 replace H : (if t104 = true then ((tidepoleref30_Check.f k t101 0).bind fun t106 => ((labels_TextMatchers.f l0).bind fun bt107 => ((labels_CheckMatchers.f k l0).bind fun t109 => (if t109 = t106 then (tidepolelaw30_LabelsMatchers.j0 k t101 t106 bt107.1 (bt107.2 != t106)) else (tidepolelaw30_LabelsMatchers.j0 k t101 t106 bt107.1 true))))) else ((tidepolelaw30_awake.f).bind fun t105 => (some t105))) = some r := H
 have A3 := Aside0.mk A30
 clear A30
 by_cases c4 : t104 = true
 ·subst c4
  have H1 : ((tidepoleref30_Check.f k t101 0).bind fun t106 => ((labels_TextMatchers.f l0).bind fun bt107 => ((labels_CheckMatchers.f k l0).bind fun t109 => (if t109 = t106 then (tidepolelaw30_LabelsMatchers.j0 k t101 t106 bt107.1 (bt107.2 != t106)) else (tidepolelaw30_LabelsMatchers.j0 k t101 t106 bt107.1 true))))) = some r := by rw [if_pos rfl] at H; exact H
  clear H
  have H := H1
  clear H1
  replace H := Option.bind_eq_some_iff.mp H
  obtain ⟨t106, A50, H⟩ := H
  replace H : ((labels_TextMatchers.f l0).bind fun bt107 => ((labels_CheckMatchers.f k l0).bind fun t109 => (if t109 = t106 then (tidepolelaw30_LabelsMatchers.j0 k t101 t106 bt107.1 (bt107.2 != t106)) else (tidepolelaw30_LabelsMatchers.j0 k t101 t106 bt107.1 true)))) = some r := H
  have A5 := Aside0.mk A50
  clear A50
  replace H := Option.bind_eq_some_iff.mp H
  obtain ⟨⟨t107, t108⟩, A60, H⟩ := H
  replace H : ((labels_CheckMatchers.f k l0).bind fun t109 => (if t109 = t106 then (tidepolelaw30_LabelsMatchers.j0 k t101 t106 t107 (t108 != t106)) else (tidepolelaw30_LabelsMatchers.j0 k t101 t106 t107 true))) = some r := H
  have A6 := Aside0.mk A60
  clear A60
  have HC7 := Aside0.mk H
  clear H
  go_enter Try.func8, Try.ntmps8
  go_upto_region 6 with (first | ((with_reducible refine gate_callee (f := 19) rfl ?_); refine goesL_ (some 10) rfl rfl Try.func19 (by kernel_rfl) rfl #[.slice A0 l0.length c0] rfl (by (try simp only [List.map_toArray, List.map_cons, List.map_nil]); first | done | rfl | (simp only [List.length_drop, List.length_take]; rfl)) ?_; (with_reducible refine (tidepolelaw30_refs.calls k _ _ l0 t101 _ ?side1 ?side2 A2.out).mono ?_); (case side1 => repeat (first | exact HR0.out | (with_reducible refine Kd.C_alloc ?_ _) | (with_reducible refine Kd.C_drewN ?_ _) | (with_reducible refine Kd.C_drew ?_))); (case side2 => exact HC0.out); rintro e w8 ⟨v102, rfl, ho0, hb⟩; refine ⟨_, rfl, ?_⟩; have n0_ := Aside0.mk (Kd.R_lower ho0 (below_size (by repeat (first | (with_reducible first | exact HB.out | apply below_alloc | apply pw_below_drewN | apply below_drew1) | exact HB.out)))); have n1_ := Aside0.mk (below_step (by repeat (first | (with_reducible first | exact HB.out | apply below_alloc | apply pw_below_drewN | apply below_drew1) | exact HB.out)) hb); clear HB; have HO103 := n0_; have HB := n1_; clear n0_ n1_; (try clear hb); (try clear hb2); (try clear hk); (try clear hi); (try clear ho0); clear A2; obtain ⟨Ao9, co9, eo9⟩ := Kd.R_slice HO103.out; subst eo9) | ((with_reducible refine gate_callee (f := 10) rfl ?_); refine goesL_ (some 12) rfl rfl Try.func10 (by kernel_rfl) rfl #[.slice Ao9 t101.length co9] rfl (by (try simp only [List.map_toArray, List.map_cons, List.map_nil]); first | done | rfl | (simp only [List.length_drop, List.length_take]; rfl)) ?_; (with_reducible refine (tidepolelaw30_small.calls k _ _ t101 true _ ?side1 ?side2 A3.out).mono ?_); (case side1 => repeat (first | exact (Kd.R_reads' HO103.out).2.2 | (with_reducible refine Kd.C_alloc ?_ _) | (with_reducible refine Kd.C_drewN ?_ _) | (with_reducible refine Kd.C_drew ?_))); (case side2 => exact (Kd.R_reads' HO103.out).2.1); rintro e w10 ⟨rfl, hb⟩; refine ⟨_, rfl, ?_⟩; have n0_ := Aside0.mk (Kd.R_below (by (with_reducible repeat (first | apply Kd.R_alloc | apply Kd.R_drewN | apply Kd.R_drew)); exact HO103.out) hb); have n1_ := Aside0.mk (below_step (by repeat (first | (with_reducible first | exact HB.out | apply below_alloc | apply pw_below_drewN | apply below_drew1) | exact HB.out)) hb); clear HO103; clear HB; have HO103 := n0_; have HB := n1_; clear n0_ n1_; (try clear hb); (try clear hb2); (try clear hk); (try clear hi); clear A3) | ((with_reducible refine gate_callee (f := 12) rfl ?_); refine goesL_ (some 16) rfl rfl Try.func12 (by kernel_rfl) rfl #[.slice Ao9 t101.length co9, .int .i64 0] rfl (by (try simp only [List.map_toArray, List.map_cons, List.map_nil]); first | done | rfl | (simp only [List.length_drop, List.length_take]; rfl)) ?_; (with_reducible refine (tidepoleref30_Check.calls k _ _ t101 0 t106 _ ?side1 ?side2 A5.out).mono ?_); (case side1 => repeat (first | exact (Kd.R_reads' HO103.out).2.2 | (with_reducible refine Kd.C_alloc ?_ _) | (with_reducible refine Kd.C_drewN ?_ _) | (with_reducible refine Kd.C_drew ?_))); (case side2 => exact (Kd.R_reads' HO103.out).2.1); rintro e w' ⟨rfl, ⟨nd, rfl⟩⟩; refine ⟨_, rfl, ?_⟩; clear A5) | ((with_reducible refine gate_callee (f := 26) rfl ?_); refine goesL_ (some 19) rfl rfl Try.func26 (by kernel_rfl) rfl #[.slice A0 l0.length c0] rfl (by (try simp only [List.map_toArray, List.map_cons, List.map_nil]); first | done | rfl | (simp only [List.length_drop, List.length_take]; rfl)) ?_; (with_reducible refine (labels_TextMatchers.calls _ _ l0 t107 t108 _ ?side1 ?side2 A6.out).mono ?_); (case side1 => repeat (first | exact (Kd.C_below HR0.out (by repeat (first | (with_reducible first | exact HB.out | apply below_alloc | apply pw_below_drewN | apply below_drew1) | exact HB.out))) | (with_reducible refine Kd.C_alloc ?_ _) | (with_reducible refine Kd.C_drewN ?_ _) | (with_reducible refine Kd.C_drew ?_))); (case side2 => exact HC0.out); rintro e w11 ⟨rfl, hb⟩; refine ⟨_, rfl, ?_⟩; have n0_ := Aside0.mk (Kd.R_below (by (with_reducible repeat (first | apply Kd.R_alloc | apply Kd.R_drewN | apply Kd.R_drew)); exact HO103.out) hb); have n1_ := Aside0.mk (below_step (by repeat (first | (with_reducible first | exact HB.out | apply below_alloc | apply pw_below_drewN | apply below_drew1) | exact HB.out)) hb); clear HO103; clear HB; have HO103 := n0_; have HB := n1_; clear n0_ n1_; (try clear hb); (try clear hb2); (try clear hk); (try clear hi); clear A6))
  (try simp only [Act.put, List.setIfInBounds_toArray, List.set_cons_zero, List.set_cons_succ])
  go_cut [30] (fun v30 wc => ∃ (kq : Nat) (x30_6 : Bool), v30 = .bool x30_6 ∧ Aside0 (tidepolelaw30_LabelsMatchers.j0 kq t101 t106 t107 x30_6 = some r) ∧ Aside0 (kq ≤ k) ∧ Aside0 (Kd.R k59 59 wc w.heap.size (fun _ => True) (.slice Ao9 t101.length co9) t101) ∧ Aside0 (Below w.heap.size w wc))
  case first =>
   have H := HC7.out
   clear HC7
   replace H := Option.bind_eq_some_iff.mp H
   obtain ⟨t109, A120, H⟩ := H
   replace H : (if t109 = t106 then (tidepolelaw30_LabelsMatchers.j0 k t101 t106 t107 (t108 != t106)) else (tidepolelaw30_LabelsMatchers.j0 k t101 t106 t107 true)) = some r := H
   have A12 := Aside0.mk A120
   clear A120
   by_cases c13 : t109 = t106
   ·rw [if_pos c13] at H
    have c13b0 : (t109 == t106) = true := beq_iff_eq.mpr c13
    have c13b1 : (t109 != t106) = false := bne_eq_false_iff_eq.mpr c13
    clear c13
    (first | rw [c13b0] | (simp only [i64_w, i32_w]; rw [c13b0]) | skip)
    have H' := Aside0.mk H
    clear H
    go_wp2_with (first | ((with_reducible refine gate_callee (f := 27) rfl ?_); refine goesL_ (some 23) rfl rfl Try.func27 (by kernel_rfl) rfl #[.slice A0 l0.length c0] rfl (by (try simp only [List.map_toArray, List.map_cons, List.map_nil]); first | done | rfl | (simp only [List.length_drop, List.length_take]; rfl)) ?_; (with_reducible refine (labels_CheckMatchers.calls k _ _ l0 t109 _ ?side1 ?side2 A12.out).mono ?_); (case side1 => repeat (first | exact (Kd.C_below HR0.out HB.out) | (with_reducible refine Kd.C_alloc ?_ _) | (with_reducible refine Kd.C_drewN ?_ _) | (with_reducible refine Kd.C_drew ?_))); (case side2 => exact HC0.out); rintro e w14 ⟨rfl, hb⟩; refine ⟨_, rfl, ?_⟩; have n0_ := Aside0.mk (Kd.R_below (by (with_reducible repeat (first | apply Kd.R_alloc | apply Kd.R_drewN | apply Kd.R_drew)); exact HO103.out) hb); have n1_ := Aside0.mk (below_step (by repeat (first | (with_reducible first | exact HB.out | apply below_alloc | apply pw_below_drewN | apply below_drew1) | exact HB.out)) hb); clear HO103; clear HB; have HO103 := n0_; have HB := n1_; clear n0_ n1_; (try clear hb); (try clear hb2); (try clear hk); (try clear hi); clear A12))
    go_meet
    case rel => exact ⟨_, ((t108 != t106)), (by first | rfl | (simp; done) | (simp [*]; done)), H', ⟨by first | omega | exact Nat.le_refl _⟩, ⟨by (with_reducible repeat (first | apply Kd.R_alloc | apply Kd.R_drewN | apply Kd.R_drew)); exact HO103.out⟩, ⟨by repeat (first | (with_reducible first | exact HB.out | apply below_alloc | apply pw_below_drewN | apply below_drew1) | exact HB.out)⟩⟩
   ·rw [if_neg c13] at H
    have c13b0 : (t109 == t106) = false := beq_eq_false_iff_ne.mpr c13
    have c13b1 : (t109 != t106) = true := bne_iff_ne.mpr c13
    (first | rw [c13b0] | (simp only [i64_w, i32_w]; rw [c13b0]) | skip)
    have H' := Aside0.mk H
    clear H
    go_wp2_with (first | ((with_reducible refine gate_callee (f := 27) rfl ?_); refine goesL_ (some 23) rfl rfl Try.func27 (by kernel_rfl) rfl #[.slice A0 l0.length c0] rfl (by (try simp only [List.map_toArray, List.map_cons, List.map_nil]); first | done | rfl | (simp only [List.length_drop, List.length_take]; rfl)) ?_; (with_reducible refine (labels_CheckMatchers.calls k _ _ l0 t109 _ ?side1 ?side2 A12.out).mono ?_); (case side1 => repeat (first | exact (Kd.C_below HR0.out HB.out) | (with_reducible refine Kd.C_alloc ?_ _) | (with_reducible refine Kd.C_drewN ?_ _) | (with_reducible refine Kd.C_drew ?_))); (case side2 => exact HC0.out); rintro e w15 ⟨rfl, hb⟩; refine ⟨_, rfl, ?_⟩; have n0_ := Aside0.mk (Kd.R_below (by (with_reducible repeat (first | apply Kd.R_alloc | apply Kd.R_drewN | apply Kd.R_drew)); exact HO103.out) hb); have n1_ := Aside0.mk (below_step (by repeat (first | (with_reducible first | exact HB.out | apply below_alloc | apply pw_below_drewN | apply below_drew1) | exact HB.out)) hb); clear HO103; clear HB; have HO103 := n0_; have HB := n1_; clear n0_ n1_; (try clear hb); (try clear hb2); (try clear hk); (try clear hi); clear A12))
    go_meet
    case rel => exact ⟨_, (true), (by first | rfl | (simp; done) | (simp [*]; done)), H', ⟨by first | omega | exact Nat.le_refl _⟩, ⟨by (with_reducible repeat (first | apply Kd.R_alloc | apply Kd.R_drewN | apply Kd.R_drew)); exact HO103.out⟩, ⟨by repeat (first | (with_reducible first | exact HB.out | apply below_alloc | apply pw_below_drewN | apply below_drew1) | exact HB.out)⟩⟩
  case rest =>
   clear HC7
   try clear c1
   try clear c2
   try clear p2
   try clear c4
   try clear c8
   try clear c10
   try clear c12
   try clear c13
   try clear c13b0
   try clear c13b1
   obtain ⟨kq, x30_6, rfl, HA, HJ6, HO_3, HB⟩ := hcut
   cases kq with
   | zero => exact absurd HA.out (by simp [tidepolelaw30_LabelsMatchers.j0])
   | succ kj6 =>
    have H := HA.out
    clear HA
    simp only [tidepolelaw30_LabelsMatchers.j0] at H
    by_cases c16 : x30_6 = true
    ·subst c16
     have H1 : (some false) = some r := by rw [if_pos rfl] at H; exact H
     clear H
     have H := H1
     clear H1
     obtain rfl := Option.some.inj H
     go_wp2
     go_ret
     exact ⟨by first | rfl | (simp [errW_none, errW_some] <;> rfl) | (simp [*, errW_none, errW_some] <;> rfl), by repeat (first | (with_reducible first | exact HB.out | apply below_alloc | apply pw_below_drewN | apply below_drew1) | exact HB.out)⟩
    ·replace c16 := Bool.eq_false_iff.mpr c16
     subst c16
     have H1 : (if t106 = 0 then ((labels_ParseMatchers.f t107).bind fun bt111 => ((tidepoleref30_Text.f t101).bind fun t115 => (if t107.toList = t115.toList then (if bt111.2 = 0 then ((tidepolelaw30_refs.f kj6 bt111.1).bind fun t116 => ((tidepolelaw30_same.f kj6 t116 t101).bind fun t119 => (if t119 = true then ((tidepolelaw30_awake.f).bind fun t120 => (some t120)) else (some false)))) else (some false)) else (some false)))) else (if t107.toList = ([] : List UInt8) then ((tidepolelaw30_awake.f).bind fun t110 => (some t110)) else (some false))) = some r := by rw [if_neg (show ¬ (false = true) by decide)] at H; exact H
     clear H
     have H := H1
     clear H1
     by_cases c17 : t106 = 0
     ·rw [if_pos c17] at H
      have c17b0 : (t106 == 0) = true := beq_iff_eq.mpr c17
      have c17b1 : (t106 != 0) = false := bne_eq_false_iff_eq.mpr c17
      clear c17
      replace H := Option.bind_eq_some_iff.mp H
      obtain ⟨⟨t111, t112⟩, A180, H⟩ := H
      replace H : ((tidepoleref30_Text.f t101).bind fun t115 => (if t107.toList = t115.toList then (if t112 = 0 then ((tidepolelaw30_refs.f kj6 t111).bind fun t116 => ((tidepolelaw30_same.f kj6 t116 t101).bind fun t119 => (if t119 = true then ((tidepolelaw30_awake.f).bind fun t120 => (some t120)) else (some false)))) else (some false)) else (some false))) = some r := H
      have A18 := Aside0.mk A180
      clear A180
      replace H := Option.bind_eq_some_iff.mp H
      obtain ⟨t115, A190, H⟩ := H
      replace H : (if t107.toList = t115.toList then (if t112 = 0 then ((tidepolelaw30_refs.f kj6 t111).bind fun t116 => ((tidepolelaw30_same.f kj6 t116 t101).bind fun t119 => (if t119 = true then ((tidepolelaw30_awake.f).bind fun t120 => (some t120)) else (some false)))) else (some false)) else (some false)) = some r := H
      have A19 := Aside0.mk A190
      clear A190
      by_cases c20 : t107.toList = t115.toList
      ·rw [if_pos c20] at H
       have c20b0 : (t107.toList == t115.toList) = true := beq_iff_eq.mpr c20
       have c20b1 : (t107.toList != t115.toList) = false := bne_eq_false_iff_eq.mpr c20
       clear c20
       by_cases c21 : t112 = 0
       ·rw [if_pos c21] at H
        have c21b0 : (t112 == 0) = true := beq_iff_eq.mpr c21
        have c21b1 : (t112 != 0) = false := bne_eq_false_iff_eq.mpr c21
        clear c21
        replace H := Option.bind_eq_some_iff.mp H
        obtain ⟨t116, A220, H⟩ := H
        replace H : ((tidepolelaw30_same.f kj6 t116 t101).bind fun t119 => (if t119 = true then ((tidepolelaw30_awake.f).bind fun t120 => (some t120)) else (some false))) = some r := H
        have A22 := Aside0.mk A220
        clear A220
        replace H := Option.bind_eq_some_iff.mp H
        obtain ⟨t119, A230, H⟩ := H
        replace H : (if t119 = true then ((tidepolelaw30_awake.f).bind fun t120 => (some t120)) else (some false)) = some r := H
        have A23 := Aside0.mk A230
        clear A230
        by_cases c24 : t119 = true
        ·subst c24
         have H1 : ((tidepolelaw30_awake.f).bind fun t120 => (some t120)) = some r := by rw [if_pos rfl] at H; exact H
         clear H
         have H := H1
         clear H1
         replace H := Option.bind_eq_some_iff.mp H
         obtain ⟨t120, A250, H⟩ := H
         replace H : (some t120) = some r := H
         have A25 := Aside0.mk A250
         clear A250
         obtain rfl := Option.some.inj H
         go_wp2_with (first | ((with_reducible refine gate_callee (f := 18) rfl ?_); refine goesL_ (some 40) rfl rfl Try.func18 (by kernel_rfl) rfl #[.string t107] rfl (by (try simp only [List.map_toArray, List.map_cons, List.map_nil]); first | done | rfl | (simp only [List.length_drop, List.length_take]; rfl)) ?_; (with_reducible refine (labels_ParseMatchers.calls t107 t111 t112 _ A18.out).mono ?_); rintro e w26 ⟨v113, rfl, ho0, hb⟩; refine ⟨_, rfl, ?_⟩; have n0_ := Aside0.mk (Kd.R_below (by (with_reducible repeat (first | apply Kd.R_alloc | apply Kd.R_drewN | apply Kd.R_drew)); exact HO_3.out) hb); have n1_ := Aside0.mk (Kd.R_lower ho0 (below_size (by repeat (first | (with_reducible first | exact HB.out | apply below_alloc | apply pw_below_drewN | apply below_drew1) | exact HB.out)))); have n2_ := Aside0.mk (below_step (by repeat (first | (with_reducible first | exact HB.out | apply below_alloc | apply pw_below_drewN | apply below_drew1) | exact HB.out)) hb); clear HO_3; clear HB; have HO_3 := n0_; have HO114 := n1_; have HB := n2_; clear n0_ n1_ n2_; (try clear hb); (try clear hb2); (try clear hk); (try clear hi); (try clear ho0); clear A18) | ((with_reducible refine gate_callee (f := 16) rfl ?_); refine goesL_ (some 45) rfl rfl Try.func16 (by kernel_rfl) rfl #[.slice Ao9 t101.length co9] rfl (by (try simp only [List.map_toArray, List.map_cons, List.map_nil]); first | done | rfl | (simp only [List.length_drop, List.length_take]; rfl)) ?_; (with_reducible refine (tidepoleref30_Text.calls _ _ t101 t115 _ ?side1 ?side2 A19.out).mono ?_); (case side1 => repeat (first | exact (Kd.R_reads' HO_3.out).2.2 | (with_reducible refine Kd.C_alloc ?_ _) | (with_reducible refine Kd.C_drewN ?_ _) | (with_reducible refine Kd.C_drew ?_))); (case side2 => exact (Kd.R_reads' HO_3.out).2.1); rintro e w27 ⟨rfl, hb⟩; refine ⟨_, rfl, ?_⟩; have n0_ := Aside0.mk (Kd.R_below (by (with_reducible repeat (first | apply Kd.R_alloc | apply Kd.R_drewN | apply Kd.R_drew)); exact HO_3.out) hb); have n1_ := Aside0.mk (Kd.R_below (by (with_reducible repeat (first | apply Kd.R_alloc | apply Kd.R_drewN | apply Kd.R_drew)); exact HO114.out) hb); have n2_ := Aside0.mk (below_step (by repeat (first | (with_reducible first | exact HB.out | apply below_alloc | apply pw_below_drewN | apply below_drew1) | exact HB.out)) hb); clear HO_3; clear HO114; clear HB; have HO_3 := n0_; have HO114 := n1_; have HB := n2_; clear n0_ n1_ n2_; (try clear hb); (try clear hb2); (try clear hk); (try clear hi); clear A19; obtain ⟨Ao28, co28, eo28⟩ := Kd.R_slice HO114.out; subst eo28) | (go_at_call 19; (with_reducible refine (tidepolelaw30_refs.calls kj6 _ _ t111 t116 _ ?side1 ?side2 A22.out).mono ?_); (case side1 => repeat (first | exact (Kd.R_reads' HO114.out).2.2 | (with_reducible refine Kd.C_alloc ?_ _) | (with_reducible refine Kd.C_drewN ?_ _) | (with_reducible refine Kd.C_drew ?_))); (case side2 => exact (Kd.R_reads' HO114.out).2.1); rintro e w29 ⟨v117, rfl, ho0, hb⟩; have n0_ := Aside0.mk (Kd.R_elder' (by (with_reducible repeat (first | apply Kd.R_alloc | apply Kd.R_drewN | apply Kd.R_drew)); exact HO_3.out) (Kd.R_base ho0) hb); have n1_ := Aside0.mk (Kd.R_below (by (with_reducible repeat (first | apply Kd.R_alloc | apply Kd.R_drewN | apply Kd.R_drew)); exact HO114.out) hb); have n2_ := Aside0.mk (Kd.R_lower (Kd.R_new' ho0 (Kd.R_lt (by (with_reducible repeat (first | apply Kd.R_alloc | apply Kd.R_drewN | apply Kd.R_drew)); exact HO_3.out))) (below_size (by repeat (first | (with_reducible first | exact HB.out | apply below_alloc | apply pw_below_drewN | apply below_drew1) | exact HB.out)))); have n3_ := Aside0.mk (below_step (by repeat (first | (with_reducible first | exact HB.out | apply below_alloc | apply pw_below_drewN | apply below_drew1) | exact HB.out)) hb); clear HO_3; clear HO114; clear HB; have HO_3 := n0_; have HO114 := n1_; have HO118 := n2_; have HB := n3_; clear n0_ n1_ n2_ n3_; (try clear hb); (try clear hb2); (try clear hk); (try clear hi); (try clear ho0); clear A22; obtain ⟨Ao30, co30, eo30⟩ := Kd.R_slice HO118.out; subst eo30) | (go_at_call 17; (with_reducible refine (tidepolelaw30_same.calls kj6 _ _ t116 _ _ t101 true _ ?side1 ?side2 ?side3 ?side4 A23.out).mono ?_); (case side1 => repeat (first | exact (Kd.R_reads' HO118.out).2.2 | (with_reducible refine Kd.C_alloc ?_ _) | (with_reducible refine Kd.C_drewN ?_ _) | (with_reducible refine Kd.C_drew ?_))); (case side2 => exact (Kd.R_reads' HO118.out).2.1); (case side3 => repeat (first | exact (Kd.R_reads' HO_3.out).2.2 | (with_reducible refine Kd.C_alloc ?_ _) | (with_reducible refine Kd.C_drewN ?_ _) | (with_reducible refine Kd.C_drew ?_))); (case side4 => exact (Kd.R_reads' HO_3.out).2.1); rintro e w' ⟨rfl, ⟨nd, rfl⟩⟩; clear A23) | (go_at_call 11; (with_reducible refine (tidepolelaw30_awake.calls  t120 _ A25.out).mono ?_); rintro e w31 ⟨rfl, hb⟩; have n0_ := Aside0.mk (Kd.R_below (by (with_reducible repeat (first | apply Kd.R_alloc | apply Kd.R_drewN | apply Kd.R_drew)); exact HO_3.out) hb); have n1_ := Aside0.mk (Kd.R_below (by (with_reducible repeat (first | apply Kd.R_alloc | apply Kd.R_drewN | apply Kd.R_drew)); exact HO114.out) hb); have n2_ := Aside0.mk (Kd.R_below (by (with_reducible repeat (first | apply Kd.R_alloc | apply Kd.R_drewN | apply Kd.R_drew)); exact HO118.out) hb); have n3_ := Aside0.mk (below_step (by repeat (first | (with_reducible first | exact HB.out | apply below_alloc | apply pw_below_drewN | apply below_drew1) | exact HB.out)) hb); clear HO_3; clear HO114; clear HO118; clear HB; have HO_3 := n0_; have HO114 := n1_; have HO118 := n2_; have HB := n3_; clear n0_ n1_ n2_ n3_; (try clear hb); (try clear hb2); (try clear hk); (try clear hi); clear A25))
         go_ret
         exact ⟨by first | rfl | (simp [errW_none, errW_some] <;> rfl) | (simp [*, errW_none, errW_some] <;> rfl), by repeat (first | (with_reducible first | exact HB.out | apply below_alloc | apply pw_below_drewN | apply below_drew1) | exact HB.out)⟩
        ·replace c24 := Bool.eq_false_iff.mpr c24
         subst c24
         have H1 : (some false) = some r := by rw [if_neg (show ¬ (false = true) by decide)] at H; exact H
         clear H
         have H := H1
         clear H1
         obtain rfl := Option.some.inj H
         go_wp2_with (first | ((with_reducible refine gate_callee (f := 18) rfl ?_); refine goesL_ (some 40) rfl rfl Try.func18 (by kernel_rfl) rfl #[.string t107] rfl (by (try simp only [List.map_toArray, List.map_cons, List.map_nil]); first | done | rfl | (simp only [List.length_drop, List.length_take]; rfl)) ?_; (with_reducible refine (labels_ParseMatchers.calls t107 t111 t112 _ A18.out).mono ?_); rintro e w32 ⟨v113, rfl, ho0, hb⟩; refine ⟨_, rfl, ?_⟩; have n0_ := Aside0.mk (Kd.R_below (by (with_reducible repeat (first | apply Kd.R_alloc | apply Kd.R_drewN | apply Kd.R_drew)); exact HO_3.out) hb); have n1_ := Aside0.mk (Kd.R_lower ho0 (below_size (by repeat (first | (with_reducible first | exact HB.out | apply below_alloc | apply pw_below_drewN | apply below_drew1) | exact HB.out)))); have n2_ := Aside0.mk (below_step (by repeat (first | (with_reducible first | exact HB.out | apply below_alloc | apply pw_below_drewN | apply below_drew1) | exact HB.out)) hb); clear HO_3; clear HB; have HO_3 := n0_; have HO114 := n1_; have HB := n2_; clear n0_ n1_ n2_; (try clear hb); (try clear hb2); (try clear hk); (try clear hi); (try clear ho0); clear A18) | ((with_reducible refine gate_callee (f := 16) rfl ?_); refine goesL_ (some 45) rfl rfl Try.func16 (by kernel_rfl) rfl #[.slice Ao9 t101.length co9] rfl (by (try simp only [List.map_toArray, List.map_cons, List.map_nil]); first | done | rfl | (simp only [List.length_drop, List.length_take]; rfl)) ?_; (with_reducible refine (tidepoleref30_Text.calls _ _ t101 t115 _ ?side1 ?side2 A19.out).mono ?_); (case side1 => repeat (first | exact (Kd.R_reads' HO_3.out).2.2 | (with_reducible refine Kd.C_alloc ?_ _) | (with_reducible refine Kd.C_drewN ?_ _) | (with_reducible refine Kd.C_drew ?_))); (case side2 => exact (Kd.R_reads' HO_3.out).2.1); rintro e w33 ⟨rfl, hb⟩; refine ⟨_, rfl, ?_⟩; have n0_ := Aside0.mk (Kd.R_below (by (with_reducible repeat (first | apply Kd.R_alloc | apply Kd.R_drewN | apply Kd.R_drew)); exact HO_3.out) hb); have n1_ := Aside0.mk (Kd.R_below (by (with_reducible repeat (first | apply Kd.R_alloc | apply Kd.R_drewN | apply Kd.R_drew)); exact HO114.out) hb); have n2_ := Aside0.mk (below_step (by repeat (first | (with_reducible first | exact HB.out | apply below_alloc | apply pw_below_drewN | apply below_drew1) | exact HB.out)) hb); clear HO_3; clear HO114; clear HB; have HO_3 := n0_; have HO114 := n1_; have HB := n2_; clear n0_ n1_ n2_; (try clear hb); (try clear hb2); (try clear hk); (try clear hi); clear A19; obtain ⟨Ao34, co34, eo34⟩ := Kd.R_slice HO114.out; subst eo34) | (go_at_call 19; (with_reducible refine (tidepolelaw30_refs.calls kj6 _ _ t111 t116 _ ?side1 ?side2 A22.out).mono ?_); (case side1 => repeat (first | exact (Kd.R_reads' HO114.out).2.2 | (with_reducible refine Kd.C_alloc ?_ _) | (with_reducible refine Kd.C_drewN ?_ _) | (with_reducible refine Kd.C_drew ?_))); (case side2 => exact (Kd.R_reads' HO114.out).2.1); rintro e w35 ⟨v117, rfl, ho0, hb⟩; have n0_ := Aside0.mk (Kd.R_elder' (by (with_reducible repeat (first | apply Kd.R_alloc | apply Kd.R_drewN | apply Kd.R_drew)); exact HO_3.out) (Kd.R_base ho0) hb); have n1_ := Aside0.mk (Kd.R_below (by (with_reducible repeat (first | apply Kd.R_alloc | apply Kd.R_drewN | apply Kd.R_drew)); exact HO114.out) hb); have n2_ := Aside0.mk (Kd.R_lower (Kd.R_new' ho0 (Kd.R_lt (by (with_reducible repeat (first | apply Kd.R_alloc | apply Kd.R_drewN | apply Kd.R_drew)); exact HO_3.out))) (below_size (by repeat (first | (with_reducible first | exact HB.out | apply below_alloc | apply pw_below_drewN | apply below_drew1) | exact HB.out)))); have n3_ := Aside0.mk (below_step (by repeat (first | (with_reducible first | exact HB.out | apply below_alloc | apply pw_below_drewN | apply below_drew1) | exact HB.out)) hb); clear HO_3; clear HO114; clear HB; have HO_3 := n0_; have HO114 := n1_; have HO118 := n2_; have HB := n3_; clear n0_ n1_ n2_ n3_; (try clear hb); (try clear hb2); (try clear hk); (try clear hi); (try clear ho0); clear A22; obtain ⟨Ao36, co36, eo36⟩ := Kd.R_slice HO118.out; subst eo36) | (go_at_call 17; (with_reducible refine (tidepolelaw30_same.calls kj6 _ _ t116 _ _ t101 false _ ?side1 ?side2 ?side3 ?side4 A23.out).mono ?_); (case side1 => repeat (first | exact (Kd.R_reads' HO118.out).2.2 | (with_reducible refine Kd.C_alloc ?_ _) | (with_reducible refine Kd.C_drewN ?_ _) | (with_reducible refine Kd.C_drew ?_))); (case side2 => exact (Kd.R_reads' HO118.out).2.1); (case side3 => repeat (first | exact (Kd.R_reads' HO_3.out).2.2 | (with_reducible refine Kd.C_alloc ?_ _) | (with_reducible refine Kd.C_drewN ?_ _) | (with_reducible refine Kd.C_drew ?_))); (case side4 => exact (Kd.R_reads' HO_3.out).2.1); rintro e w' ⟨rfl, ⟨nd, rfl⟩⟩; clear A23))
         go_ret
         exact ⟨by first | rfl | (simp [errW_none, errW_some] <;> rfl) | (simp [*, errW_none, errW_some] <;> rfl), by repeat (first | (with_reducible first | exact HB.out | apply below_alloc | apply pw_below_drewN | apply below_drew1) | exact HB.out)⟩
       ·rw [if_neg c21] at H
        have c21b0 : (t112 == 0) = false := beq_eq_false_iff_ne.mpr c21
        have c21b1 : (t112 != 0) = true := bne_iff_ne.mpr c21
        obtain rfl := Option.some.inj H
        go_wp2_with (first | ((with_reducible refine gate_callee (f := 18) rfl ?_); refine goesL_ (some 40) rfl rfl Try.func18 (by kernel_rfl) rfl #[.string t107] rfl (by (try simp only [List.map_toArray, List.map_cons, List.map_nil]); first | done | rfl | (simp only [List.length_drop, List.length_take]; rfl)) ?_; (with_reducible refine (labels_ParseMatchers.calls t107 t111 t112 _ A18.out).mono ?_); rintro e w37 ⟨v113, rfl, ho0, hb⟩; refine ⟨_, rfl, ?_⟩; have n0_ := Aside0.mk (Kd.R_below (by (with_reducible repeat (first | apply Kd.R_alloc | apply Kd.R_drewN | apply Kd.R_drew)); exact HO_3.out) hb); have n1_ := Aside0.mk (Kd.R_lower ho0 (below_size (by repeat (first | (with_reducible first | exact HB.out | apply below_alloc | apply pw_below_drewN | apply below_drew1) | exact HB.out)))); have n2_ := Aside0.mk (below_step (by repeat (first | (with_reducible first | exact HB.out | apply below_alloc | apply pw_below_drewN | apply below_drew1) | exact HB.out)) hb); clear HO_3; clear HB; have HO_3 := n0_; have HO114 := n1_; have HB := n2_; clear n0_ n1_ n2_; (try clear hb); (try clear hb2); (try clear hk); (try clear hi); (try clear ho0); clear A18) | ((with_reducible refine gate_callee (f := 16) rfl ?_); refine goesL_ (some 45) rfl rfl Try.func16 (by kernel_rfl) rfl #[.slice Ao9 t101.length co9] rfl (by (try simp only [List.map_toArray, List.map_cons, List.map_nil]); first | done | rfl | (simp only [List.length_drop, List.length_take]; rfl)) ?_; (with_reducible refine (tidepoleref30_Text.calls _ _ t101 t115 _ ?side1 ?side2 A19.out).mono ?_); (case side1 => repeat (first | exact (Kd.R_reads' HO_3.out).2.2 | (with_reducible refine Kd.C_alloc ?_ _) | (with_reducible refine Kd.C_drewN ?_ _) | (with_reducible refine Kd.C_drew ?_))); (case side2 => exact (Kd.R_reads' HO_3.out).2.1); rintro e w38 ⟨rfl, hb⟩; refine ⟨_, rfl, ?_⟩; have n0_ := Aside0.mk (Kd.R_below (by (with_reducible repeat (first | apply Kd.R_alloc | apply Kd.R_drewN | apply Kd.R_drew)); exact HO_3.out) hb); have n1_ := Aside0.mk (Kd.R_below (by (with_reducible repeat (first | apply Kd.R_alloc | apply Kd.R_drewN | apply Kd.R_drew)); exact HO114.out) hb); have n2_ := Aside0.mk (below_step (by repeat (first | (with_reducible first | exact HB.out | apply below_alloc | apply pw_below_drewN | apply below_drew1) | exact HB.out)) hb); clear HO_3; clear HO114; clear HB; have HO_3 := n0_; have HO114 := n1_; have HB := n2_; clear n0_ n1_ n2_; (try clear hb); (try clear hb2); (try clear hk); (try clear hi); clear A19))
        go_ret
        exact ⟨by first | rfl | (simp [errW_none, errW_some] <;> rfl) | (simp [*, errW_none, errW_some] <;> rfl), by repeat (first | (with_reducible first | exact HB.out | apply below_alloc | apply pw_below_drewN | apply below_drew1) | exact HB.out)⟩
      ·rw [if_neg c20] at H
       have c20b0 : (t107.toList == t115.toList) = false := beq_eq_false_iff_ne.mpr c20
       have c20b1 : (t107.toList != t115.toList) = true := bne_iff_ne.mpr c20
       obtain rfl := Option.some.inj H
       go_wp2_with (first | ((with_reducible refine gate_callee (f := 18) rfl ?_); refine goesL_ (some 40) rfl rfl Try.func18 (by kernel_rfl) rfl #[.string t107] rfl (by (try simp only [List.map_toArray, List.map_cons, List.map_nil]); first | done | rfl | (simp only [List.length_drop, List.length_take]; rfl)) ?_; (with_reducible refine (labels_ParseMatchers.calls t107 t111 t112 _ A18.out).mono ?_); rintro e w39 ⟨v113, rfl, ho0, hb⟩; refine ⟨_, rfl, ?_⟩; have n0_ := Aside0.mk (Kd.R_below (by (with_reducible repeat (first | apply Kd.R_alloc | apply Kd.R_drewN | apply Kd.R_drew)); exact HO_3.out) hb); have n1_ := Aside0.mk (Kd.R_lower ho0 (below_size (by repeat (first | (with_reducible first | exact HB.out | apply below_alloc | apply pw_below_drewN | apply below_drew1) | exact HB.out)))); have n2_ := Aside0.mk (below_step (by repeat (first | (with_reducible first | exact HB.out | apply below_alloc | apply pw_below_drewN | apply below_drew1) | exact HB.out)) hb); clear HO_3; clear HB; have HO_3 := n0_; have HO114 := n1_; have HB := n2_; clear n0_ n1_ n2_; (try clear hb); (try clear hb2); (try clear hk); (try clear hi); (try clear ho0); clear A18) | ((with_reducible refine gate_callee (f := 16) rfl ?_); refine goesL_ (some 45) rfl rfl Try.func16 (by kernel_rfl) rfl #[.slice Ao9 t101.length co9] rfl (by (try simp only [List.map_toArray, List.map_cons, List.map_nil]); first | done | rfl | (simp only [List.length_drop, List.length_take]; rfl)) ?_; (with_reducible refine (tidepoleref30_Text.calls _ _ t101 t115 _ ?side1 ?side2 A19.out).mono ?_); (case side1 => repeat (first | exact (Kd.R_reads' HO_3.out).2.2 | (with_reducible refine Kd.C_alloc ?_ _) | (with_reducible refine Kd.C_drewN ?_ _) | (with_reducible refine Kd.C_drew ?_))); (case side2 => exact (Kd.R_reads' HO_3.out).2.1); rintro e w40 ⟨rfl, hb⟩; refine ⟨_, rfl, ?_⟩; have n0_ := Aside0.mk (Kd.R_below (by (with_reducible repeat (first | apply Kd.R_alloc | apply Kd.R_drewN | apply Kd.R_drew)); exact HO_3.out) hb); have n1_ := Aside0.mk (Kd.R_below (by (with_reducible repeat (first | apply Kd.R_alloc | apply Kd.R_drewN | apply Kd.R_drew)); exact HO114.out) hb); have n2_ := Aside0.mk (below_step (by repeat (first | (with_reducible first | exact HB.out | apply below_alloc | apply pw_below_drewN | apply below_drew1) | exact HB.out)) hb); clear HO_3; clear HO114; clear HB; have HO_3 := n0_; have HO114 := n1_; have HB := n2_; clear n0_ n1_ n2_; (try clear hb); (try clear hb2); (try clear hk); (try clear hi); clear A19))
       go_ret
       exact ⟨by first | rfl | (simp [errW_none, errW_some] <;> rfl) | (simp [*, errW_none, errW_some] <;> rfl), by repeat (first | (with_reducible first | exact HB.out | apply below_alloc | apply pw_below_drewN | apply below_drew1) | exact HB.out)⟩
     ·rw [if_neg c17] at H
      have c17b0 : (t106 == 0) = false := beq_eq_false_iff_ne.mpr c17
      have c17b1 : (t106 != 0) = true := bne_iff_ne.mpr c17
      by_cases c41 : t107.toList = ([] : List UInt8)
      ·rw [if_pos c41] at H
       have c41b0 : (t107.toList == ([] : List UInt8)) = true := beq_iff_eq.mpr c41
       have c41b1 : (t107.toList != ([] : List UInt8)) = false := bne_eq_false_iff_eq.mpr c41
       clear c41
       replace H := Option.bind_eq_some_iff.mp H
       obtain ⟨t110, A420, H⟩ := H
       replace H : (some t110) = some r := H
       have A42 := Aside0.mk A420
       clear A420
       obtain rfl := Option.some.inj H
       go_wp2_with (first | (go_at_call 11; (with_reducible refine (tidepolelaw30_awake.calls  t110 _ A42.out).mono ?_); rintro e w43 ⟨rfl, hb⟩; have n0_ := Aside0.mk (Kd.R_below (by (with_reducible repeat (first | apply Kd.R_alloc | apply Kd.R_drewN | apply Kd.R_drew)); exact HO_3.out) hb); have n1_ := Aside0.mk (below_step (by repeat (first | (with_reducible first | exact HB.out | apply below_alloc | apply pw_below_drewN | apply below_drew1) | exact HB.out)) hb); clear HO_3; clear HB; have HO_3 := n0_; have HB := n1_; clear n0_ n1_; (try clear hb); (try clear hb2); (try clear hk); (try clear hi); clear A42))
       go_ret
       exact ⟨by first | rfl | (simp [errW_none, errW_some] <;> rfl) | (simp [*, errW_none, errW_some] <;> rfl), by repeat (first | (with_reducible first | exact HB.out | apply below_alloc | apply pw_below_drewN | apply below_drew1) | exact HB.out)⟩
      ·rw [if_neg c41] at H
       have c41b0 : (t107.toList == ([] : List UInt8)) = false := beq_eq_false_iff_ne.mpr c41
       have c41b1 : (t107.toList != ([] : List UInt8)) = true := bne_iff_ne.mpr c41
       obtain rfl := Option.some.inj H
       go_wp2
       go_ret
       exact ⟨by first | rfl | (simp [errW_none, errW_some] <;> rfl) | (simp [*, errW_none, errW_some] <;> rfl), by repeat (first | (with_reducible first | exact HB.out | apply below_alloc | apply pw_below_drewN | apply below_drew1) | exact HB.out)⟩
 ·replace c4 := Bool.eq_false_iff.mpr c4
  subst c4
  have H1 : ((tidepolelaw30_awake.f).bind fun t105 => (some t105)) = some r := by rw [if_neg (show ¬ (false = true) by decide)] at H; exact H
  clear H
  have H := H1
  clear H1
  replace H := Option.bind_eq_some_iff.mp H
  obtain ⟨t105, A440, H⟩ := H
  replace H : (some t105) = some r := H
  have A44 := Aside0.mk A440
  clear A440
  obtain rfl := Option.some.inj H
  go_enter Try.func8, Try.ntmps8
  go_wp2_with (first | ((with_reducible refine gate_callee (f := 19) rfl ?_); refine goesL_ (some 10) rfl rfl Try.func19 (by kernel_rfl) rfl #[.slice A0 l0.length c0] rfl (by (try simp only [List.map_toArray, List.map_cons, List.map_nil]); first | done | rfl | (simp only [List.length_drop, List.length_take]; rfl)) ?_; (with_reducible refine (tidepolelaw30_refs.calls k _ _ l0 t101 _ ?side1 ?side2 A2.out).mono ?_); (case side1 => repeat (first | exact HR0.out | (with_reducible refine Kd.C_alloc ?_ _) | (with_reducible refine Kd.C_drewN ?_ _) | (with_reducible refine Kd.C_drew ?_))); (case side2 => exact HC0.out); rintro e w45 ⟨v102, rfl, ho0, hb⟩; refine ⟨_, rfl, ?_⟩; have n0_ := Aside0.mk (Kd.R_lower ho0 (below_size (by repeat (first | (with_reducible first | exact HB.out | apply below_alloc | apply pw_below_drewN | apply below_drew1) | exact HB.out)))); have n1_ := Aside0.mk (below_step (by repeat (first | (with_reducible first | exact HB.out | apply below_alloc | apply pw_below_drewN | apply below_drew1) | exact HB.out)) hb); clear HB; have HO103 := n0_; have HB := n1_; clear n0_ n1_; (try clear hb); (try clear hb2); (try clear hk); (try clear hi); (try clear ho0); clear A2; obtain ⟨Ao46, co46, eo46⟩ := Kd.R_slice HO103.out; subst eo46) | ((with_reducible refine gate_callee (f := 10) rfl ?_); refine goesL_ (some 12) rfl rfl Try.func10 (by kernel_rfl) rfl #[.slice Ao46 t101.length co46] rfl (by (try simp only [List.map_toArray, List.map_cons, List.map_nil]); first | done | rfl | (simp only [List.length_drop, List.length_take]; rfl)) ?_; (with_reducible refine (tidepolelaw30_small.calls k _ _ t101 false _ ?side1 ?side2 A3.out).mono ?_); (case side1 => repeat (first | exact (Kd.R_reads' HO103.out).2.2 | (with_reducible refine Kd.C_alloc ?_ _) | (with_reducible refine Kd.C_drewN ?_ _) | (with_reducible refine Kd.C_drew ?_))); (case side2 => exact (Kd.R_reads' HO103.out).2.1); rintro e w47 ⟨rfl, hb⟩; refine ⟨_, rfl, ?_⟩; have n0_ := Aside0.mk (Kd.R_below (by (with_reducible repeat (first | apply Kd.R_alloc | apply Kd.R_drewN | apply Kd.R_drew)); exact HO103.out) hb); have n1_ := Aside0.mk (below_step (by repeat (first | (with_reducible first | exact HB.out | apply below_alloc | apply pw_below_drewN | apply below_drew1) | exact HB.out)) hb); clear HO103; clear HB; have HO103 := n0_; have HB := n1_; clear n0_ n1_; (try clear hb); (try clear hb2); (try clear hk); (try clear hi); clear A3) | ((with_reducible refine gate_callee (f := 11) rfl ?_); refine goesL_ (some 14) rfl rfl Try.func11 (by kernel_rfl) rfl #[] rfl (by (try simp only [List.map_toArray, List.map_cons, List.map_nil]); first | done | rfl | (simp only [List.length_drop, List.length_take]; rfl)) ?_; (with_reducible refine (tidepolelaw30_awake.calls  t105 _ A44.out).mono ?_); rintro e w48 ⟨rfl, hb⟩; refine ⟨_, rfl, ?_⟩; have n0_ := Aside0.mk (Kd.R_below (by (with_reducible repeat (first | apply Kd.R_alloc | apply Kd.R_drewN | apply Kd.R_drew)); exact HO103.out) hb); have n1_ := Aside0.mk (below_step (by repeat (first | (with_reducible first | exact HB.out | apply below_alloc | apply pw_below_drewN | apply below_drew1) | exact HB.out)) hb); clear HO103; clear HB; have HO103 := n0_; have HB := n1_; clear n0_ n1_; (try clear hb); (try clear hb2); (try clear hk); (try clear hi); clear A44))
  go_ret
  exact ⟨by first | rfl | (simp [errW_none, errW_some] <;> rfl) | (simp [*, errW_none, errW_some] <;> rfl), by repeat (first | (with_reducible first | exact HB.out | apply below_alloc | apply pw_below_drewN | apply below_drew1) | exact HB.out)⟩
end Go.Proofs.Ytbfiacnmielajaa.P
namespace Go.Proofs.Ytbfiacnmielajaa.P
open Go.RowKit Go.Proofs.YtbfiacnmielajaaW.PrintWords Go.Proofs.YtbfiacnmielajaaW.PrintLast Go.Proofs.YtbfiacnmielajaaW.PrintMore
attribute [local go_sem] max2_int min2_int max_two min_two max_three min_three max_four min_four
set_option linter.unusedVariables false
set_option linter.unusedSimpArgs false
def inI (k : IntKind) (n : Int) : Prop := (Lit.int k n).wf = true
def Opens {α : Type} (P : Program) (t : TypeId) (d : Kd α) (wf : α → Prop) : Prop := ∀ {H : Type} (enc : TypeId × Value → H) (w : World) (base : Nat) (sp : Nat → Bool) (held : Bool) (fuel : Nat) (cs : List Value) (x : DataW H × List MemPlace),
 DataW.trod enc P w base sp held fuel t cs = some x → ∃ y, d.K w y cs ∧ wf y
theorem opens_int {P : Program} {t : TypeId} {k : IntKind} (ht : P.underlying t = some (.int k)) : Opens P t (Kd.int k) (inI k) := by
 intro H enc w base sp held fuel cs x h
 obtain ⟨n, rfl, _, hw⟩ := DataW.trod_int ht h
 exact ⟨n, rfl, hw⟩
def wfStr (s : ByteArray) : Prop := s.size ≤ 9223372036854775807
theorem opens_string {P : Program} {t : TypeId} (ht : P.underlying t = some .string) : Opens P t Kd.string wfStr := by
 intro H enc w base sp held fuel cs x h
 obtain ⟨s, rfl, _, hw⟩ := DataW.trod_string ht h
 exact ⟨s, rfl, hw⟩
theorem opens_slice {α : Type} {P : Program} {t e : TypeId} {d : Kd α} {wf : α → Prop} (ht : P.underlying t = some (.slice e)) (hs : P.cellsOf e = d.sz) (ho : Opens P e d wf) : Opens P t (Kd.slice e d) (fun xs => ∀ x ∈ xs, wf x) := by
 intro H enc w base sp held fuel cs x h
 rcases Deep.open_slice ht h with ⟨rfl, _⟩ | ⟨a, len, cap, m, n, D, Pl, rfl, hb, hl, hm, hmm, _, hx⟩
 ·exact ⟨[], ⟨none, 0, rfl, Nat.le_refl _, Kd.C_nil _ _⟩, fun x hx => by cases hx⟩
 ·have hlm : len ≤ m := by rw [hmm]; split <;> omega
  unfold maxLen at hm
  rw [hs] at hx
  have each : ∀ i, i < len → ∃ y : α, (∃ cs', cs'.length = d.sz ∧ d.K w y cs' ∧ ∀ j u, cs'[j]? = some u → w.cell? (a.add (i * d.sz + j)) = some u) ∧ wf y := by
   intro i hi
   obtain ⟨cs', h1, h2⟩ := hx i (by omega)
   obtain ⟨y, hk, hw⟩ := ho _ _ _ _ _ _ _ _ h2
   obtain ⟨_, hlen, hcell⟩ := World.cells?_some h1
   refine ⟨y, ⟨cs', hlen, hk, fun j u hu => ?_⟩, hw⟩
   have hj : j < cs'.length := (List.getElem?_eq_some_iff.1 hu).1
   have := hcell j (by omega)
   rw [Deep.add_add] at this
   rw [this]; exact hu
  by_cases h0 : len = 0
  ·subst h0
   exact ⟨[], ⟨some a, cap, rfl, Nat.zero_le _, ⟨rfl, by simp, fun h => absurd h (Nat.lt_irrefl 0)⟩⟩, fun x hx => by cases hx⟩
  ·obtain ⟨y0, _⟩ := each 0 (by omega)
   have : Inhabited α := ⟨y0⟩
   obtain ⟨f, hf⟩ := Deep.choose_lt each
   refine ⟨(List.range len).map f, ⟨some a, cap, by simp, by simpa using hl, ⟨by simp, by simp; omega, fun _ => ⟨a, rfl, fun j p hj => ?_⟩⟩⟩, fun x hx => ?_⟩
   ·rw [List.getElem?_map] at hj
    obtain ⟨i, hi, rfl⟩ := Option.map_eq_some_iff.1 hj
    obtain ⟨hlt, rfl⟩ := List.getElem?_eq_some_iff.1 hi
    simp only [List.length_range] at hlt
    simp only [List.getElem_range]
    obtain ⟨cs', h1, h2, h3⟩ := (hf j hlt).1
    exact ⟨cs', h1, h2, h3⟩
   ·obtain ⟨i, hi, rfl⟩ := List.mem_map.1 hx
    exact (hf i (List.mem_range.1 hi)).2
def wf42 (x : S42) : Prop := (inI .i64) x.f0 ∧ wfStr x.f1 ∧ wfStr x.f2
set_option maxRecDepth 100000 in
theorem opens42 : Opens Try.prog 42 k42 wf42 := by
 intro H enc w base sp held fuel cs x h
 obtain ⟨xs, n, rfl, _, hl, hxl, hf⟩ := DataW.trod_struct Try.underlying42 h
 have hc : cs.length = 3 := hl.trans (by kernel_rfl)
 match cs, hc with
 | [c0, c1, c2], _ =>
  have g0 : DataW.trod enc Try.prog w base sp held n 3 ((([c0, c1, c2] : List Value).drop 0).take (Try.prog.cellsOf 3)) = xs[0]? := hf 0 _ rfl
  rw [show Try.prog.cellsOf 3 = 1 from by kernel_rfl] at g0
  have e0 : xs[0]? = some (xs[0]'(by rw [hxl]; decide)) := List.getElem?_eq_getElem _
  have g1 : DataW.trod enc Try.prog w base sp held n 9 ((([c0, c1, c2] : List Value).drop 1).take (Try.prog.cellsOf 9)) = xs[1]? := hf 1 _ rfl
  rw [show Try.prog.cellsOf 9 = 1 from by kernel_rfl] at g1
  have e1 : xs[1]? = some (xs[1]'(by rw [hxl]; decide)) := List.getElem?_eq_getElem _
  have g2 : DataW.trod enc Try.prog w base sp held n 9 ((([c0, c1, c2] : List Value).drop 2).take (Try.prog.cellsOf 9)) = xs[2]? := hf 2 _ rfl
  rw [show Try.prog.cellsOf 9 = 1 from by kernel_rfl] at g2
  have e2 : xs[2]? = some (xs[2]'(by rw [hxl]; decide)) := List.getElem?_eq_getElem _
  obtain ⟨y0, hk0, hw0⟩ := (opens_int Try.underlying3) enc w base sp held n [c0] _ (g0.trans e0)
  injection (show [c0] = [Value.int .i64 y0] from hk0) with he0 _
  subst he0
  obtain ⟨y1, hk1, hw1⟩ := (opens_string Try.underlying9) enc w base sp held n [c1] _ (g1.trans e1)
  injection (show [c1] = [Value.string y1] from hk1) with he1 _
  subst he1
  obtain ⟨y2, hk2, hw2⟩ := (opens_string Try.underlying9) enc w base sp held n [c2] _ (g2.trans e2)
  injection (show [c2] = [Value.string y2] from hk2) with he2 _
  subst he2
  exact ⟨⟨y0, y1, y2⟩, k42_mk w ⟨y0, y1, y2⟩ , ⟨hw0, hw1, hw2⟩⟩
end Go.Proofs.Ytbfiacnmielajaa.P
namespace Go.Proofs.Ytbfiacnmielajaa.P
def headSigns : List Char := List.map Char.ofNat [104, 97, 114, 110, 101, 115, 115, 32, 100, 53, 48, 53, 51, 102, 57, 55, 55, 51, 52, 49, 100, 52, 97, 100, 53, 101, 97, 57, 102, 54, 57, 55, 98, 97, 57, 97, 54, 97, 53, 54, 97, 99, 100, 100, 99, 53, 53, 102, 100, 98, 101, 98, 52, 49, 50, 55, 100, 49, 52, 55, 57, 55, 50, 98, 49, 48, 51, 101, 53, 100, 48, 50, 32, 99, 117, 116, 32, 97, 116, 32, 116, 105, 100, 101, 112, 111, 108, 101, 47, 116, 105, 100, 101, 112, 111, 108, 101, 108, 97, 119, 51, 48, 46, 76, 97, 98, 101, 108, 115, 84, 101, 120, 116, 115, 32, 116, 105, 100, 101, 112, 111, 108, 101, 47, 116, 105, 100, 101, 112, 111, 108, 101, 108, 97, 119, 51, 48, 46, 76, 97, 98, 101, 108, 115, 80, 97, 114, 115, 101, 115, 32, 116, 105, 100, 101, 112, 111, 108, 101, 47, 116, 105, 100, 101, 112, 111, 108, 101, 108, 97, 119, 51, 48, 46, 76, 97, 98, 101, 108, 115, 77, 97, 116, 99, 104, 101, 115, 32, 116, 105, 100, 101, 112, 111, 108, 101, 47, 116, 105, 100, 101, 112, 111, 108, 101, 108, 97, 119, 51, 48, 46, 76, 97, 98, 101, 108, 115, 79, 114, 100, 101, 114, 32, 116, 105, 100, 101, 112, 111, 108, 101, 47, 116, 105, 100, 101, 112, 111, 108, 101, 108, 97, 119, 51, 48, 46, 76, 97, 98, 101, 108, 115, 65, 112, 97, 114, 116, 32, 116, 105, 100, 101, 112, 111, 108, 101, 47, 116, 105, 100, 101, 112, 111, 108, 101, 108, 97, 119, 51, 48, 46, 76, 97, 98, 101, 108, 115, 77, 97, 116, 99, 104, 101, 114, 115]
theorem head_is : Try.prog.initOrder = String.ofList headSigns := by kernel_rfl
theorem head_signs : Try.prog.initOrder.toList = headSigns := by rw [head_is]; exact String.toList_ofList
theorem head_first : (behindMainWord (wordsSigns headSigns)).head? = some "cut".toList := by kernel_rfl
theorem head_words : ∃ r, behindMainWord (wordsSigns headSigns) = "cut".toList :: r := by have h := head_first; cases h2 : behindMainWord (wordsSigns headSigns) with | nil => rw [h2] at h; cases h | cons c r => rw [h2] at h; injection h with h; exact ⟨r, by rw [h]⟩
theorem strip_cut (r : List (List Char)) : stripLifts liftWords ("cut".toList :: r) = ([], "cut".toList :: r) := by kernel_rfl
theorem head_lifts : Try.prog.headLifts = [] := by obtain ⟨r, hr⟩ := head_words; unfold Program.headLifts; rw [head_signs, hr, strip_cut]; kernel_rfl
theorem head_doorFits : Try.prog.doorFits [] = true := by kernel_rfl
theorem head_laysLater : Try.prog.laysLater = false := by kernel_rfl
theorem head_bearsReflect : Try.prog.bearsReflect = false := by kernel_rfl
theorem mayEnter_of {P : Program} {L : List Char} {r : List (List Char)} (h1 : P.initOrder.toList = L) (h2 : behindMainWord (wordsSigns L) = "cut".toList :: r) (h3 : P.doorFits [] = true) (h4 : P.laysLater = false) (h5 : P.bearsReflect = false) : P.mayEnter = true := by unfold Program.mayEnter; rw [h1, h2]; simp only [strip_cut, h3, h4, h5]; kernel_rfl
theorem head_mayEnter : Try.prog.mayEnter = true := by obtain ⟨r, hr⟩ := head_words; exact mayEnter_of head_signs hr head_doorFits head_laysLater head_bearsReflect
theorem head_liftsFinal : Try.prog.liftsFinal = false := by obtain ⟨r, hr⟩ := head_words; unfold Program.liftsFinal; rw [head_signs, head_lifts, hr]; kernel_rfl
theorem make_of {P : Program} {L : List Char} {r : List (List Char)} (h1 : P.initOrder.toList = L) (h2 : behindMainWord (wordsSigns L) = "cut".toList :: r) : P.make = some .cut := by unfold Program.make; rw [h1, h2]; kernel_rfl
theorem head_make : Try.prog.make = some .cut := by obtain ⟨r, hr⟩ := head_words; exact make_of head_signs hr
theorem head_laidOut : laidOutB Try.prog = true := by kernel_rfl
theorem head_mapsRowed : mapsRowed Try.prog = true := by kernel_rfl
theorem head_stops : (Try.prog.stops == []) = true := by kernel_rfl
theorem head_stopKnobs : (Try.prog.stopKnobs == []) = true := by kernel_rfl
theorem head_plainKeys : Try.prog.plainKeys = true := by kernel_rfl
theorem head_stopsHeard : Try.prog.stopsHeard = true := by kernel_rfl
end Go.Proofs.Ytbfiacnmielajaa.P
namespace Go.Proofs.Ytbfiacnmielajaa.P
open Go.RowKit Go.Proofs.YtbfiacnmielajaaW.PrintWords Go.Proofs.YtbfiacnmielajaaW.PrintLast Go.Proofs.YtbfiacnmielajaaW.PrintMore
set_option linter.unusedVariables false
set_option linter.unusedSimpArgs false
abbrev Mt := S42
abbrev Rm := S59
theorem rdR_ (l : List Rm) (i : Nat) (h : i < l.length) : rd_T59 l (i : Int) = l[i] := by unfold rd_T59; simp [List.getD, h]
theorem rdM_ (l : List Mt) (i : Nat) (h : i < l.length) : rd_T42 l (i : Int) = l[i] := by unfold rd_T42; simp [List.getD, h]
theorem wrS {i : Nat} (h : i < 9000000000000000000) : wrap64 ((i : Int) + 1) = ((i + 1 : Nat) : Int) := by unfold wrap64; omega
def rfM (x : Mt) : Rm := ⟨x.f0, x.f1, x.f2⟩
theorem refs_l0 (l : List Mt) (hl : l.length ≤ 3518437208883) : ∀ (d k i : Nat), i + d = l.length → d < k → tidepolelaw30_refs.l0 k ((l.take i).map rfM) l (l.length : Int) (i : Int) = some (l.map rfM) := by
  intro d
  induction d with
  | zero =>
    intro k i hi hk
    obtain ⟨k, rfl⟩ : ∃ m, k = m + 1 := ⟨k - 1, by omega⟩
    simp only [tidepolelaw30_refs.l0]
    rw [if_neg (by omega), List.take_of_length_le (by omega)]
  | succ d ih =>
    intro k i hi hk
    obtain ⟨k, rfl⟩ : ∃ m, k = m + 1 := ⟨k - 1, by omega⟩
    have hlt : i < l.length := by omega
    simp only [tidepolelaw30_refs.l0]
    rw [if_pos (by omega), if_pos (by omega), if_pos (by omega), if_pos (by simp; omega), wrS (by omega), rdM_ l i hlt, ← ih k (i + 1) (by omega) (by omega), List.take_succ_eq_append_getElem hlt, List.map_append]
    rfl
theorem refs_eq (l : List Mt) (hl : l.length ≤ 3518437208883) (k : Nat) (hk : l.length < k) : tidepolelaw30_refs.f k l = some (l.map rfM) := refs_l0 l hl l.length k 0 (by omega) hk
def smB (x : Rm) : Bool := decide (x.f1.size ≤ 100) && decide (x.f2.size ≤ 300)
def smallB (l : List Rm) : Bool := l.all smB && decide (l.length ≤ 30)
theorem small_l0 (l : List Rm) (hl : l.length ≤ 3518437208883) : ∀ (d k i : Nat), i + d = l.length → d < k → tidepolelaw30_small.l0 k l l (l.length : Int) (i : Int) = some ((l.drop i).all smB && decide (l.length ≤ 30)) := by
  intro d
  induction d with
  | zero =>
    intro k i hi hk
    obtain ⟨k, rfl⟩ : ∃ m, k = m + 1 := ⟨k - 1, by omega⟩
    simp only [tidepolelaw30_small.l0]
    rw [if_neg (by omega), List.drop_of_length_le (by omega)]
    simp only [List.all_nil, Bool.true_and]
    congr 1
    exact decide_eq_decide.2 (by omega)
  | succ d ih =>
    intro k i hi hk
    obtain ⟨k, rfl⟩ : ∃ m, k = m + 1 := ⟨k - 1, by omega⟩
    have hlt : i < l.length := by omega
    simp only [tidepolelaw30_small.l0]
    rw [if_pos (by omega), if_pos (by omega), if_pos (by omega), rdR_ l i hlt, wrS (by omega), ih k (i + 1) (by omega) (by omega), List.drop_eq_getElem_cons hlt, List.all_cons]
    generalize l[i] = x
    unfold smB
    by_cases h1 : x.f1.size ≤ 100
    · rw [if_neg (by omega), decide_eq_true h1]
      by_cases h2 : x.f2.size ≤ 300
      · rw [if_neg (by omega), decide_eq_true h2]; rfl
      · rw [if_pos (by omega), decide_eq_false h2]; rfl
    · rw [if_pos (by omega), decide_eq_false h1]; rfl
theorem small_eq (l : List Rm) (hl : l.length ≤ 3518437208883) (k : Nat) (hk : l.length < k) : tidepolelaw30_small.f k l = some (smallB l) := by
  unfold tidepolelaw30_small.f smallB
  rw [show (0 : Int) = ((0 : Nat) : Int) from rfl, small_l0 l hl l.length k 0 (by omega) hk]; rfl
def chkL (lab : Int) : Option ByteArray → List Rm → Int
  | _, [] => 0
  | p, x :: l => if lab = 0 ∧ (x.f0 < 0 ∨ x.f0 > 3) then 11 else if nameR x.f1 = true then (if x.f2.size ≤ 200 then (if lab = 1 ∧ (∃ q, p = some q ∧ Op.bytesLess q.toList x.f1.toList = false) then 11 else chkL lab (some x.f1) l) else 17) else 10
def checkR (lab : Int) (l : List Rm) : Int := if l.length > 16 then 12 else chkL lab none l
def pv (l : List Rm) (i : Nat) : Option ByteArray := if i = 0 then none else some (rd_T59 l ((i : Int) - 1)).f1
theorem pv_succ (l : List Rm) (i : Nat) (h : i < l.length) : pv l (i + 1) = some l[i].f1 := by
  unfold pv
  rw [if_neg (by omega), show ((i + 1 : Nat) : Int) - 1 = (i : Int) by omega, rdR_ l i h]
theorem wrP {i : Nat} (h : i < 9000000000000000000) (h0 : 0 < i) : wrap64 ((i : Int) - 1) = (i : Int) - 1 := by unfold wrap64; omega
theorem check_l0 (l : List Rm) (lab : Int) (hlab : lab = 0 ∨ lab = 1) (hl : l.length ≤ 16) : ∀ (d k i : Nat), i + d = l.length → 2 * d < k → tidepoleref30_Check.l0 k l lab (i : Int) = some (chkL lab (pv l i) (l.drop i)) := by
  intro d
  induction d with
  | zero =>
    intro k i hi hk
    obtain ⟨k, rfl⟩ : ∃ m, k = m + 1 := ⟨k - 1, by omega⟩
    simp only [tidepoleref30_Check.l0]
    rw [if_neg (by omega), List.drop_of_length_le (by omega)]
    rfl
  | succ d ih =>
    intro k i hi hk
    obtain ⟨k, rfl⟩ : ∃ m, k = m + 2 := ⟨k - 2, by omega⟩
    have hlt : i < l.length := by omega
    have hrec := ih k (i + 1) (by omega) (by omega)
    rw [pv_succ l i hlt] at hrec
    simp only [tidepoleref30_Check.l0]
    rw [if_pos (by omega), List.drop_eq_getElem_cons hlt]
    have key : ∀ b : Bool, tidepoleref30_Check.j1 (k + 1) l lab (i : Int) b = some (if b = true then 11 else if nameR l[i].f1 = true then (if l[i].f2.size ≤ 200 then (if lab = 1 ∧ (∃ q, pv l i = some q ∧ Op.bytesLess q.toList l[i].f1.toList = false) then 11 else chkL lab (some l[i].f1) (l.drop (i + 1))) else 17) else 10) := by
      intro b
      simp only [tidepoleref30_Check.j1]
      by_cases hb : b = true
      · rw [if_pos hb, if_pos hb]
      · rw [if_neg hb, if_neg hb, if_pos (by omega), if_pos (by omega), rdR_ l i hlt, wrS (by omega), hrec]
        simp only [tidepoleref30_Name.f, Option.bind_some]
        by_cases hn : nameR l[i].f1 = true
        · rw [if_pos hn, if_pos hn]
          by_cases hv : l[i].f2.size ≤ 200
          · rw [if_neg (by omega), if_pos hv]
            by_cases h1 : lab = 1
            · rw [if_pos h1]
              by_cases h0 : i = 0
              · subst h0
                rw [if_neg (by decide), if_neg (by rintro ⟨_, q, hq, _⟩; simp [pv] at hq)]
              · rw [if_pos (by omega), wrP (by omega) (by omega), if_pos (by omega), if_pos (by omega)]
                have hp : pv l i = some (rd_T59 l ((i : Int) - 1)).f1 := by unfold pv; rw [if_neg h0]
                by_cases hb2 : Op.bytesLess (rd_T59 l ((i : Int) - 1)).f1.toList l[i].f1.toList = true
                · rw [if_pos hb2, if_neg (by rintro ⟨_, q, hq, hf⟩; rw [hp] at hq; cases hq; rw [hb2] at hf; cases hf)]
                · rw [if_neg hb2, if_pos ⟨h1, _, hp, Bool.eq_false_iff.2 hb2⟩]
            · rw [if_neg h1, if_neg (fun h => h1 h.1)]
          · rw [if_pos (by omega), if_neg hv]
        · rw [if_neg hn, if_neg hn]
    simp only [chkL]
    rcases hlab with rfl | rfl
    · rw [if_pos rfl, if_pos (by omega), rdR_ l i hlt]
      by_cases h0 : l[i].f0 < 0
      · rw [if_pos h0, key, if_pos rfl, if_pos ⟨rfl, .inl h0⟩]
      · rw [if_neg h0, key]
        by_cases h3 : l[i].f0 > 3
        · rw [if_pos (decide_eq_true h3), if_pos ⟨rfl, .inr h3⟩]
        · rw [if_neg (by rw [decide_eq_false h3]; decide), if_neg (show ¬ ((0 : Int) = 0 ∧ (l[i].f0 < 0 ∨ l[i].f0 > 3)) from fun h => h.2.elim h0 h3)]
    · rw [if_neg (by decide), key, if_neg (by decide), if_neg (show ¬ ((1 : Int) = 0 ∧ (l[i].f0 < 0 ∨ l[i].f0 > 3)) from fun h => absurd h.1 (by decide))]
theorem check_eq (l : List Rm) (lab : Int) (hlab : lab = 0 ∨ lab = 1) (k : Nat) (hk : 40 < k) : tidepoleref30_Check.f k l lab = some (checkR lab l) := by
  unfold tidepoleref30_Check.f checkR
  by_cases h : l.length > 16
  · rw [if_pos (by omega), if_pos h]
  · rw [if_neg (by omega), if_neg h, show (0 : Int) = ((0 : Nat) : Int) from rfl, check_l0 l lab hlab (by omega) l.length k 0 (by omega) (by omega)]
    rfl
theorem letter_eq (c : Int) (b : Bool) (k : Nat) (hk : 2 < k) : labels_letter.f k c b = some (chk c b) := by
  obtain ⟨k, rfl⟩ : ∃ m, k = m + 2 := ⟨k - 2, by omega⟩
  unfold labels_letter.f chk
  have e95 : (c == 95) = decide (c = 95) := rfl
  by_cases h1 : 48 ≤ c <;> by_cases h2 : c ≤ 57 <;> by_cases h3 : 97 ≤ c <;> by_cases h4 : c ≤ 122 <;> by_cases h5 : 65 ≤ c <;> by_cases h6 : c ≤ 90 <;>
    first
    | (exfalso; omega)
    | simp [labels_letter.j0, labels_letter.j1, h1, h2, h3, h4, h5, h6, e95]
theorem named_l0 (s : ByteArray) (hs : s.size ≤ 1000000) : ∀ (d k i : Nat), i + d = s.size → d + 3 < k → labels_named.l0 k s (s.size : Int) (i : Int) = some (nameL s d i && (decide (1 ≤ s.size) && decide (s.size ≤ 40))) := by
  intro d
  induction d with
  | zero =>
    intro k i hi hk
    obtain ⟨k, rfl⟩ : ∃ m, k = m + 1 := ⟨k - 1, by omega⟩
    simp only [labels_named.l0, nameL, Bool.true_and]
    rw [if_neg (by omega)]
    by_cases h : 1 ≤ s.size
    · rw [if_pos (by omega), decide_eq_true h, Bool.true_and]
      congr 1
      exact decide_eq_decide.2 (by omega)
    · rw [if_neg (by omega), decide_eq_false h]; rfl
  | succ d ih =>
    intro k i hi hk
    obtain ⟨k, rfl⟩ : ∃ m, k = m + 1 := ⟨k - 1, by omega⟩
    simp only [labels_named.l0, nameL]
    have hz : ((i : Int) == 0) = decide (i = 0) := by
      rw [show ((i : Int) == 0) = decide ((i : Int) = 0) from rfl]; exact decide_eq_decide.2 (by omega)
    rw [if_pos (by omega), if_pos (by omega), if_pos (by omega), letter_eq _ _ k (by omega), wrS (by omega), ih k (i + 1) (by omega) (by omega), hz]
    simp only [Option.bind_some]
    by_cases h : chk (bt s (i : Int)) (decide (i = 0)) = true
    · rw [if_pos h, h, Bool.true_and]
    · rw [if_neg h, Bool.eq_false_iff.2 h, Bool.false_and, Bool.false_and]
theorem named_eq (s : ByteArray) (hs : s.size ≤ 1000000) (k : Nat) (hk : s.size + 3 < k) : labels_named.f k s = some (nameR s) := by
  unfold labels_named.f nameR
  rw [show (0 : Int) = ((0 : Nat) : Int) from rfl, named_l0 s hs s.size k 0 (by omega) hk]
  congr 1
  rw [Bool.and_comm, Bool.and_assoc]
theorem part_eq (n v : ByteArray) (hs : n.size ≤ 1000000) (k : Nat) (hk : n.size + 3 < k) : labels_part.f k n v = some (if nameR n = true then (if v.size ≤ 200 then 0 else 17) else 10) := by
  unfold labels_part.f
  rw [named_eq n hs k hk]
  simp only [Option.bind_some]
  by_cases h : nameR n = true
  · rw [if_pos h, if_pos h]
    by_cases h2 : v.size ≤ 200
    · rw [if_neg (by omega), if_pos h2]
    · rw [if_pos (by omega), if_neg h2]
  · rw [if_neg h, if_neg h]
theorem checkM_l0 (l : List Mt) (hl : l.length ≤ 16) (hn : ∀ x ∈ l, x.f1.size ≤ 2500) : ∀ (d k i : Nat), i + d = l.length → 2 * d + 2600 < k → ∀ p, labels_CheckMatchers.l0 k l (l.length : Int) (i : Int) = some (chkL 0 p ((l.drop i).map rfM)) := by
  intro d
  induction d with
  | zero =>
    intro k i hi hk p
    obtain ⟨k, rfl⟩ : ∃ m, k = m + 1 := ⟨k - 1, by omega⟩
    simp only [labels_CheckMatchers.l0]
    rw [if_neg (by omega), List.drop_of_length_le (by omega)]
    rfl
  | succ d ih =>
    intro k i hi hk p
    obtain ⟨k, rfl⟩ : ∃ m, k = m + 2 := ⟨k - 2, by omega⟩
    have hlt : i < l.length := by omega
    have hx := hn l[i] (List.getElem_mem hlt)
    have hrec := ih k (i + 1) (by omega) (by omega) (some l[i].f1)
    simp only [labels_CheckMatchers.l0, labels_CheckMatchers.j1]
    rw [if_pos (by omega), if_pos (by omega), if_pos (by omega), rdM_ l i hlt, List.drop_eq_getElem_cons hlt, List.map_cons, wrS (by omega), hrec, part_eq _ _ (by omega) k (by omega)]
    generalize l[i] = x
    have h3' : x.f0 > 3 ↔ 3 < x.f0 := Iff.rfl
    by_cases h0 : x.f0 < 0
    · simp [chkL, rfM, h0]
    · by_cases h3 : 3 < x.f0
      · simp [chkL, rfM, h0, h3]
      · by_cases hn : nameR x.f1 = true
        · by_cases hv : x.f2.size ≤ 200
          · simp [chkL, rfM, h0, h3, hn, hv]
          · simp [chkL, rfM, h0, h3, hn, hv]
        · simp [chkL, rfM, h0, h3, hn]
theorem checkM_eq (l : List Mt) (hn : l.length ≤ 16 → ∀ x ∈ l, x.f1.size ≤ 2500) (k : Nat) (hk : 2700 < k) : labels_CheckMatchers.f k l = some (checkR 0 (l.map rfM)) := by
  unfold labels_CheckMatchers.f checkR
  by_cases h : l.length > 16
  · rw [if_pos (by omega), if_pos (by simpa using h)]
  · rw [if_neg (by omega), if_neg (by simpa using h), show (0 : Int) = ((0 : Nat) : Int) from rfl, checkM_l0 l (by omega) (hn (by omega)) l.length k 0 (by omega) (by omega) none]
    rfl
end Go.Proofs.Ytbfiacnmielajaa.P
namespace Go.Proofs.Ytbfiacnmielajaa.P
open Go.RowKit Go.Proofs.YtbfiacnmielajaaW.PrintWords Go.Proofs.YtbfiacnmielajaaW.PrintLast Go.Proofs.YtbfiacnmielajaaW.PrintMore
set_option linter.unusedVariables false
set_option linter.unusedSimpArgs false
def mk (l : List UInt8) : ByteArray := ⟨l.toArray⟩
theorem mk_data (s : ByteArray) : mk s.data.toList = s := ByteArray.ext (by simp [mk])
theorem mk_size (l : List UInt8) : (mk l).size = l.length := by simp [mk, ByteArray.size]
theorem mk_toList (l : List UInt8) : (mk l).toList = l := by rw [Go.ByteArray.toList_eq]; simp [mk]
theorem mk_dtl (l : List UInt8) : (mk l).data.toList = l := by simp [mk]
theorem mk_append (a b : List UInt8) : mk a ++ mk b = mk (a ++ b) := ByteArray.ext (by simp [mk, ByteArray.data_append])
theorem mk_extract (l : List UInt8) (a b : Nat) : (mk l).extract a b = mk ((l.drop a).take (b - a)) := by
  apply ByteArray.ext
  simp [mk, ByteArray.data_extract, List.extract_eq_take_drop]
theorem mk_from (l : List UInt8) (a : Nat) : (mk l).extract a (mk l).size = mk (l.drop a) := by
  rw [mk_extract, mk_size, List.take_of_length_le (by simp)]
theorem bt_mk (l : List UInt8) (i : Nat) (h : i < l.length) : bt (mk l) (i : Int) = ((l[i]).toNat : Int) := by
  have hs : (i : Int).toNat < (mk l).size := by rw [mk_size]; simpa using h
  rw [← bt_at (mk l) (i : Int) hs]
  rfl
theorem bt_mk0 (c : UInt8) (l : List UInt8) : bt (mk (c :: l)) 0 = (c.toNat : Int) := bt_mk (c :: l) 0 (by simp)
theorem pre_take (p l : List UInt8) : (l.take p.length == p) = p.isPrefixOf l := by
  rw [Bool.eq_iff_iff, beq_iff_eq, List.isPrefixOf_iff_prefix, List.prefix_iff_eq_take]
  exact ⟨fun h => h.symm, fun h => h.symm⟩
theorem hp_mk (l p : List UInt8) : strings_HasPrefix.f (mk l) (mk p) = some (p.isPrefixOf l) := by
  unfold strings_HasPrefix.f stringslite_HasPrefix.f
  rw [mk_size, mk_size]
  by_cases h : (l.length : Int) ≥ (p.length : Int)
  · rw [if_pos h, if_pos (by omega), if_pos (by omega), mk_extract, mk_toList, mk_toList]
    simp only [Option.bind_some, Int.toNat_natCast, Nat.sub_zero, List.drop_zero]
    rw [pre_take]
  · rw [if_neg h]
    simp only [Option.bind_some]
    congr 1
    cases hp : p.isPrefixOf l with
    | false => rfl
    | true => have := (List.isPrefixOf_iff_prefix.1 hp).length_le; omega
theorem take_mk (l p : List UInt8) (b : Bool) : labels_reader_take.f (mk l) b (mk p) = some (if p.isPrefixOf l = true then (mk (l.drop p.length), b) else (mk l, true)) := by
  have h0 : stringslite_HasPrefix.f (mk l) (mk p) = some (p.isPrefixOf l) := by
    have := hp_mk l p
    unfold strings_HasPrefix.f at this
    rw [Option.bind_eq_some_iff] at this
    obtain ⟨q, h, e⟩ := this
    cases e; exact h
  unfold labels_reader_take.f strings_CutPrefix.f stringslite_CutPrefix.f
  rw [h0]
  simp only [Option.bind_some]
  cases hp : p.isPrefixOf l with
  | false => cases b <;> simp
  | true =>
    have hl := (List.isPrefixOf_iff_prefix.1 hp).length_le
    rw [if_pos rfl, mk_size, if_pos (by omega), if_pos (by rw [mk_size]; omega), Int.toNat_natCast, mk_from]
    cases b <;> simp
theorem letter_eq1 (c : Int) (b : Bool) (k : Nat) (hk : 1 < k) : labels_letter.f k c b = some (chk c b) := by
  obtain ⟨k, rfl⟩ : ∃ m, k = m + 2 := ⟨k - 2, by omega⟩
  unfold labels_letter.f chk
  have e95 : (c == 95) = decide (c = 95) := rfl
  by_cases h1 : 48 ≤ c <;> by_cases h2 : c ≤ 57 <;> by_cases h3 : 97 ≤ c <;> by_cases h4 : c ≤ 122 <;> by_cases h5 : 65 ≤ c <;> by_cases h6 : c ≤ 90 <;>
    first
    | (exfalso; omega)
    | simp [labels_letter.j0, labels_letter.j1, h1, h2, h3, h4, h5, h6, e95]
def okN (c : UInt8) : Bool := chk (c.toNat : Int) false
theorem name_l0 (l : List UInt8) (b : Bool) (hl : l.length ≤ 1000000000) : ∀ (d k i : Nat), i + d = l.length → d + 1 < k → (∀ c ∈ l.take i, okN c = true) →
    labels_reader_name.l0 k (i : Int) (mk l) b = some (mk (l.takeWhile okN), mk (l.dropWhile okN), b) := by
  have fin : ∀ i : Nat, i ≤ l.length → (∀ c ∈ l.take i, okN c = true) → (∀ h : i < l.length, okN l[i] = false) → l.takeWhile okN = l.take i ∧ l.dropWhile okN = l.drop i := by
    intro i hi h1 h2
    have e1 : l.takeWhile okN = l.take i := by
      conv => lhs; rw [← List.take_append_drop i l]
      rw [List.takeWhile_append_of_pos h1]
      cases hd : l.drop i with
      | nil => simp
      | cons a r =>
        have hlt : i < l.length := by
          rcases Nat.lt_or_ge i l.length with h | h
          · exact h
          · rw [List.drop_of_length_le h] at hd; cases hd
        have ha : l[i] = a := by rw [List.drop_eq_getElem_cons hlt] at hd; injection hd
        rw [List.takeWhile_cons, ← ha, h2 hlt]; simp
    refine ⟨e1, ?_⟩
    have := List.takeWhile_append_dropWhile (p := okN) (l := l)
    rw [e1] at this
    conv at this => rhs; rw [← List.take_append_drop i l]
    exact List.append_cancel_left this
  intro d
  induction d with
  | zero =>
    intro k i hi hk ho
    obtain ⟨k, rfl⟩ : ∃ q, k = q + 1 := ⟨k - 1, by omega⟩
    obtain ⟨e1, e2⟩ := fin i (by omega) ho (fun h => by omega)
    simp only [labels_reader_name.l0]
    rw [if_neg (by rw [mk_size]; omega), if_pos (by omega), if_pos (by rw [mk_size]; omega), Int.toNat_natCast, mk_from, mk_extract, e1, e2]
    simp
  | succ d ih =>
    intro k i hi hk ho
    obtain ⟨k, rfl⟩ : ∃ q, k = q + 1 := ⟨k - 1, by omega⟩
    have hlt : i < l.length := by omega
    simp only [labels_reader_name.l0]
    rw [if_pos (by rw [mk_size]; omega), if_pos (by omega), bt_mk l i hlt, letter_eq1 _ _ k (by omega)]
    simp only [Option.bind_some]
    cases hc : okN l[i] with
    | true =>
      rw [if_pos (show chk ((l[i]).toNat : Int) false = true from hc), wrS (by omega), ih k (i + 1) (by omega) (by omega) (fun c hc' => by
        rw [List.take_succ_eq_append_getElem hlt, List.mem_append] at hc'
        rcases hc' with h | h
        · exact ho c h
        · rw [List.mem_singleton] at h; rw [h]; exact hc)]
    | false =>
      obtain ⟨e1, e2⟩ := fin i (by omega) ho (fun _ => hc)
      rw [if_neg (by unfold okN at hc; rw [hc]; decide), if_pos (by rw [mk_size]; omega), Int.toNat_natCast, mk_from, mk_extract, e1, e2]
      simp
theorem name_mk (l : List UInt8) (b : Bool) (hl : l.length ≤ 1000000000) : labels_reader_name.f ((mk l).size + 2) (mk l) b = some (mk (l.takeWhile okN), mk (l.dropWhile okN), b) :=
  name_l0 l b hl l.length _ 0 (by omega) (by rw [mk_size]; omega) (fun c h => by simp at h)
end Go.Proofs.Ytbfiacnmielajaa.P
namespace Go.Proofs.Ytbfiacnmielajaa.P
open Go.RowKit Go.Proofs.YtbfiacnmielajaaW.PrintWords Go.Proofs.YtbfiacnmielajaaW.PrintLast Go.Proofs.YtbfiacnmielajaaW.PrintMore
set_option linter.unusedVariables false
set_option linter.unusedSimpArgs false
def esc (c : UInt8) : List UInt8 := if c = 10 then [92, 110] else if c = 34 ∨ c = 92 then [92, c] else [c]
theorem nums1 (c : UInt8) : strOfNums [(c.toNat : Int)] = mk [c] := by
  apply ByteArray.ext
  simp [strOfNums, mk]
theorem nums_mk (l : List UInt8) : strOfNums (l.map fun c => (c.toNat : Int)) = mk l := by
  apply ByteArray.ext
  show ((l.map fun c => (c.toNat : Int)).map fun n => UInt8.ofNat n.toNat).toArray = l.toArray
  rw [List.map_map]
  congr 1
  conv => rhs; rw [← List.map_id l]
  exact List.map_congr_left (fun c _ => by simp)
theorem u8i {c d : UInt8} : ((c.toNat : Int) = (d.toNat : Int)) ↔ c = d := ⟨fun h => UInt8.toNat_inj.1 (by omega), fun h => by rw [h]⟩
theorem escB_esc (c : UInt8) : escB (c.toNat : Int) = mk (esc c) := by
  have h10 : ((c.toNat : Int) = 10) ↔ c = 10 := u8i (d := 10)
  have h34 : ((c.toNat : Int) = 34) ↔ c = 34 := u8i (d := 34)
  have h92 : ((c.toNat : Int) = 92) ↔ c = 92 := u8i (d := 92)
  unfold escB esc
  simp only [h10, h34, h92]
  by_cases a : c = 10
  · rw [if_pos a, if_pos a]; rfl
  · rw [if_neg a, if_neg a]
    by_cases b : c = 34 ∨ c = 92
    · rw [if_pos b, if_pos b, nums1]; exact mk_append [92] [c]
    · rw [if_neg b, if_neg b, nums1]
theorem quotL_mk (l : List UInt8) : ∀ (d i : Nat) (a : List UInt8), i + d = l.length → quotL (mk l) d i (mk a) = mk (a ++ (l.drop i).flatMap esc) := by
  intro d
  induction d with
  | zero => intro i a hi; simp only [quotL]; rw [List.drop_of_length_le (by omega)]; simp
  | succ d ih =>
    intro i a hi
    have hlt : i < l.length := by omega
    simp only [quotL]
    rw [bt_mk l i hlt, escB_esc, mk_append, ih (i + 1) _ (by omega), List.drop_eq_getElem_cons hlt, List.flatMap_cons, List.append_assoc]
theorem quoted_mk (l : List UInt8) : quotedR (mk l) = mk (34 :: (l.flatMap esc ++ [34])) := by
  unfold quotedR
  rw [mk_size]
  have := quotL_mk l l.length 0 [] (by omega)
  rw [show (⟨#[]⟩ : ByteArray) = mk [] from rfl, this]
  exact (congrArg (· ++ mk [34]) (mk_append [34] _)).trans (mk_append _ [34])
theorem cut1_mk (c : UInt8) (l : List UInt8) : cut1 (mk (c :: l)) = mk l := by unfold cut1; rw [mk_from]; rfl
theorem hp1_mk (c : UInt8) (l : List UInt8) (d : UInt8) : hp1 (mk (c :: l)) (d.toNat : Int) = decide (c = d) := by
  unfold hp1
  rw [bt_mk0, mk_size, decide_eq_true (by simp), Bool.true_and]
  exact decide_eq_decide.2 u8i
def nums (l : List UInt8) : List Int := l.map fun c => (c.toNat : Int)
theorem valL_step (d : Nat) (c : UInt8) (l : List UInt8) (bad : Bool) (o : List Int) : valL (d + 1) (mk (c :: l)) bad o =
    if c = 34 then some (o, mk (c :: l), bad) else
    if c = 10 then valL d (mk l) true (o ++ [10]) else
    if c = 92 then
      (if hp1 (mk l) 110 = true then valL d (cut1 (mk l)) bad (o ++ [10]) else
       if hp1 (mk l) 34 = true then valL d (cut1 (mk l)) bad (o ++ [34]) else
       if hp1 (mk l) 92 = true then valL d (cut1 (mk l)) bad (o ++ [92]) else valL d (mk l) true (o ++ [92]))
    else valL d (mk l) bad (o ++ [(c.toNat : Int)]) := by
  have h10 : ((c.toNat : Int) = 10) ↔ c = 10 := u8i (d := 10)
  have h34 : ((c.toNat : Int) = 34) ↔ c = 34 := u8i (d := 34)
  have h92 : ((c.toNat : Int) = 92) ↔ c = 92 := u8i (d := 92)
  simp only [valL]
  rw [if_neg (by rw [mk_size]; simp), bt_mk0, cut1_mk]
  simp only [h10, h34, h92]
theorem valL_fwd : ∀ (v rest : List UInt8) (d : Nat) (bad : Bool) (o : List Int), v.length < d → valL d (mk (v.flatMap esc ++ 34 :: rest)) bad o = some (o ++ nums v, mk (34 :: rest), bad) := by
  intro v
  induction v with
  | nil =>
    intro rest d bad o hd
    obtain ⟨d, rfl⟩ : ∃ q, d = q + 1 := ⟨d - 1, by simp at hd; omega⟩
    rw [show ([] : List UInt8).flatMap esc ++ 34 :: rest = 34 :: rest from rfl, valL_step, if_pos rfl]
    simp [nums]
  | cons c v ih =>
    intro rest d bad o hd
    obtain ⟨d, rfl⟩ : ∃ q, d = q + 1 := ⟨d - 1, by simp at hd; omega⟩
    have hd' : v.length < d := by simp at hd; omega
    rw [List.flatMap_cons, List.append_assoc]
    have hn : nums (c :: v) = (c.toNat : Int) :: nums v := rfl
    rw [hn, show esc c = if c = 10 then [92, 110] else if c = 34 ∨ c = 92 then [92, c] else [c] from rfl]
    have n34 : hp1 (mk (110 :: (v.flatMap esc ++ 34 :: rest))) 110 = true := by rw [show (110 : Int) = ((110 : UInt8).toNat : Int) from rfl, hp1_mk]; rfl
    by_cases h : c = 10
    · subst h
      rw [if_pos rfl, show ([92, 110] : List UInt8) ++ (v.flatMap esc ++ 34 :: rest) = 92 :: 110 :: (v.flatMap esc ++ 34 :: rest) from rfl, valL_step, if_neg (by decide), if_neg (by decide), if_pos rfl, if_pos n34, cut1_mk, ih rest d bad _ hd']
      simp
    · rw [if_neg h]
      by_cases h2 : c = 34 ∨ c = 92
      · rw [if_pos h2, show ([92, c] : List UInt8) ++ (v.flatMap esc ++ 34 :: rest) = 92 :: c :: (v.flatMap esc ++ 34 :: rest) from rfl, valL_step, if_neg (by decide), if_neg (by decide), if_pos rfl]
        have e1 : hp1 (mk (c :: (v.flatMap esc ++ 34 :: rest))) 110 = decide (c = 110) := hp1_mk c _ 110
        have e2 : hp1 (mk (c :: (v.flatMap esc ++ 34 :: rest))) 34 = decide (c = 34) := hp1_mk c _ 34
        have e3 : hp1 (mk (c :: (v.flatMap esc ++ 34 :: rest))) 92 = decide (c = 92) := hp1_mk c _ 92
        rw [e1, e2, e3, cut1_mk]
        rcases h2 with h2 | h2
        · subst h2
          rw [if_neg (by decide), if_pos (by decide), ih rest d bad _ hd']; simp
        · subst h2
          rw [if_neg (by decide), if_neg (by decide), if_pos (by decide), ih rest d bad _ hd']; simp
      · rw [if_neg h2, show ([c] : List UInt8) ++ (v.flatMap esc ++ 34 :: rest) = c :: (v.flatMap esc ++ 34 :: rest) from rfl, valL_step, if_neg (fun e => h2 (.inl e)), if_neg h, if_neg (fun e => h2 (.inr e)), ih rest d bad _ hd']
        simp
theorem take1_mk (c d : UInt8) (l : List UInt8) (b : Bool) : labels_reader_take.f (mk (c :: l)) b (⟨#[d]⟩ : ByteArray) = some (if c = d then (mk l, b) else (mk (c :: l), true)) := by
  have := take_mk (c :: l) [d] b
  rw [show mk [d] = (⟨#[d]⟩ : ByteArray) from rfl] at this
  rw [this]
  congr 1
  have e : ([d].isPrefixOf (c :: l) = true) ↔ c = d := by simp [List.isPrefixOf]; exact eq_comm
  simp only [e]; rfl
theorem value_fwd (v rest : List UInt8) (bad : Bool) (h : (34 :: (v.flatMap esc ++ 34 :: rest)).length ≤ 1000000) : labels_reader_value.f (mk (34 :: (v.flatMap esc ++ 34 :: rest))) bad = some (mk v, mk rest, bad) := by
  unfold labels_reader_value.f
  have hv : v.length ≤ (v.flatMap esc).length := by
    clear h
    induction v with
    | nil => simp
    | cons c v ih =>
      rw [List.flatMap_cons, List.length_append, List.length_cons]
      have : 1 ≤ (esc c).length := by unfold esc; split; simp; split <;> simp
      omega
  rw [if_pos (by rw [mk_size]; exact h), take1_mk, if_pos rfl]
  simp only [Option.bind_some]
  rw [valL_fwd v rest _ bad [] (by simp only [mk_size, List.length_append, List.length_cons]; omega)]
  simp only [Option.bind_some]
  rw [take1_mk, if_pos rfl]
  simp only [Option.bind_some, List.nil_append]
  rw [show strOfNums (nums v) = mk v from nums_mk v]
def sgL : Nat → List UInt8
  | 0 => [61]
  | 1 => [33, 61]
  | 2 => [94, 61]
  | _ => [42, 61]
theorem sgn_mk (i : Nat) : sgn i = mk (sgL i) := by
  match i with
  | 0 => rfl
  | 1 => rfl
  | 2 => rfl
  | n + 3 => rfl
theorem sign_fwd (i : Nat) (hi : i ≤ 3) (rest : List UInt8) (bad : Bool) : labels_reader_sign.f (mk (sgL i ++ rest)) bad = some ((i : Int), mk rest, bad) := by
  unfold labels_reader_sign.f
  obtain rfl | rfl | rfl | rfl : i = 0 ∨ i = 1 ∨ i = 2 ∨ i = 3 := by omega
  all_goals
    simp only [labels_reader_sign.l0, sgn_mk, hp_mk, Option.bind_some, take_mk]
    simp [sgL, List.isPrefixOf]
theorem name_fwd (n : List UInt8) (s : UInt8) (rest : List UInt8) (bad : Bool) (hn : ∀ c ∈ n, okN c = true) (hs : okN s = false) (hl : (n ++ s :: rest).length ≤ 1000000000) :
    labels_reader_name.f ((mk (n ++ s :: rest)).size + 2) (mk (n ++ s :: rest)) bad = some (mk n, mk (s :: rest), bad) := by
  rw [name_mk _ _ hl, List.takeWhile_append_of_pos hn, List.dropWhile_append_of_pos hn, List.takeWhile_cons, List.dropWhile_cons, hs]
  simp
end Go.Proofs.Ytbfiacnmielajaa.P
namespace Go.Proofs.Ytbfiacnmielajaa.P
open Go.RowKit Go.Proofs.YtbfiacnmielajaaW.PrintWords Go.Proofs.YtbfiacnmielajaaW.PrintLast Go.Proofs.YtbfiacnmielajaaW.PrintMore
set_option linter.unusedVariables false
set_option linter.unusedSimpArgs false
def bl (s : ByteArray) : List UInt8 := s.data.toList
theorem mk_bl (s : ByteArray) : mk (bl s) = s := mk_data s
theorem bl_size (s : ByteArray) : (bl s).length = s.size := by unfold bl; rw [Array.length_toList]; rfl
def pcL (x : Mt) : List UInt8 := bl x.f1 ++ (sgL x.f0.toNat ++ 34 :: ((bl x.f2).flatMap esc ++ [34]))
def bodyL : Bool → List Mt → List UInt8
  | _, [] => []
  | first, x :: r => (if first = true then [] else [44]) ++ (pcL x ++ bodyL false r)
def okK (x : Mt) : Prop := 0 ≤ x.f0 ∧ x.f0 ≤ 3
def okP (x : Mt) : Prop := okK x ∧ ∀ c ∈ bl x.f1, okN c = true
theorem okN125 : okN 125 = false := by decide
theorem pcL_hd (x : Mt) (hx : okP x) (r : List UInt8) : ∃ c t, pcL x ++ r = c :: t ∧ c ≠ 125 := by
  unfold pcL
  cases h : bl x.f1 with
  | nil =>
    cases hs : sgL x.f0.toNat with
    | nil => exfalso; revert hs; unfold sgL; split <;> simp
    | cons c t =>
      refine ⟨c, _, rfl, ?_⟩
      revert hs
      unfold sgL
      split <;> (intro e; injection e with e _; rw [← e]; decide)
  | cons c t =>
    refine ⟨c, _, rfl, fun e => ?_⟩
    have := hx.2 c (by rw [h]; simp)
    rw [e, okN125] at this
    cases this
theorem sg_hd (i : Nat) : ∃ s t, sgL i = s :: t ∧ okN s = false := by
  unfold sgL
  split
  · exact ⟨61, [], rfl, by decide⟩
  · exact ⟨33, [61], rfl, by decide⟩
  · exact ⟨94, [61], rfl, by decide⟩
  · exact ⟨42, [61], rfl, by decide⟩
theorem allL_fwd : ∀ (ms o : List Mt) (d : Nat) (rest : List UInt8), (∀ x ∈ ms, okP x) → o.length + ms.length ≤ 16 → 18 ≤ d + o.length → (bodyL (decide (o.length = 0)) ms ++ 125 :: rest).length ≤ 1000000 →
    allL d o (mk (bodyL (decide (o.length = 0)) ms ++ 125 :: rest)) false = some (o ++ ms, mk (125 :: rest), false) := by
  intro ms
  induction ms with
  | nil =>
    intro o d rest hp ho hd hz
    obtain ⟨d, rfl⟩ : ∃ q, d = q + 1 := ⟨d - 1, by simp at ho; omega⟩
    rw [show bodyL (decide (o.length = 0)) [] ++ 125 :: rest = 125 :: rest from rfl]
    simp only [allL]
    rw [if_neg (by decide), if_pos (show hp1 (mk (125 :: rest)) 125 = true by rw [show (125 : Int) = ((125 : UInt8).toNat : Int) from rfl, hp1_mk]; decide)]
    simp
  | cons x ms ih =>
    intro o d rest hp ho hd hz
    simp only [List.length_cons] at ho
    obtain ⟨d, rfl⟩ : ∃ q, d = q + 1 := ⟨d - 1, by omega⟩
    have hx := hp x (by simp)
    have eB : bodyL (decide (o.length = 0)) (x :: ms) ++ 125 :: rest = (if decide (o.length = 0) = true then [] else [44]) ++ (pcL x ++ (bodyL false ms ++ 125 :: rest)) := by
      simp only [bodyL]; simp [List.append_assoc]
    rw [eB] at hz ⊢
    obtain ⟨c, t, ec, hc⟩ := pcL_hd x hx (bodyL false ms ++ 125 :: rest)
    have h125 : hp1 (mk ((if decide (o.length = 0) = true then [] else [44]) ++ (pcL x ++ (bodyL false ms ++ 125 :: rest)))) 125 = false := by
      rw [ec]
      by_cases h0 : o.length = 0
      · rw [if_pos (decide_eq_true h0), show ([] : List UInt8) ++ c :: t = c :: t from rfl, show (125 : Int) = ((125 : UInt8).toNat : Int) from rfl, hp1_mk]
        exact decide_eq_false hc
      · rw [if_neg (by rw [decide_eq_false h0]; decide), show ([44] : List UInt8) ++ c :: t = 44 :: c :: t from rfl, show (125 : Int) = ((125 : UInt8).toNat : Int) from rfl, hp1_mk]
        decide
    have hz2 : (pcL x ++ (bodyL false ms ++ 125 :: rest)).length ≤ 1000000 := by rw [List.length_append] at hz; omega
    have hcm : (if o.length = 0 then some (mk ((if decide (o.length = 0) = true then [] else [44]) ++ (pcL x ++ (bodyL false ms ++ 125 :: rest))), false) else labels_reader_take.f (mk ((if decide (o.length = 0) = true then [] else [44]) ++ (pcL x ++ (bodyL false ms ++ 125 :: rest)))) false (⟨#[44]⟩ : ByteArray))
        = some (mk (pcL x ++ (bodyL false ms ++ 125 :: rest)), false) := by
      by_cases h0 : o.length = 0
      · rw [if_pos h0, if_pos (decide_eq_true h0)]; rfl
      · rw [if_neg h0, if_neg (by rw [decide_eq_false h0]; decide)]
        exact (take1_mk 44 44 _ false).trans (by rw [if_pos rfl]; rfl)
    simp only [allL]
    rw [if_neg (by decide), if_neg (by rw [h125]; decide), hcm]
    simp only [Option.bind_some]
    obtain ⟨s, st, es, hs⟩ := sg_hd x.f0.toNat
    have eP : pcL x ++ (bodyL false ms ++ 125 :: rest) = bl x.f1 ++ s :: (st ++ 34 :: ((bl x.f2).flatMap esc ++ 34 :: (bodyL false ms ++ 125 :: rest))) := by
      unfold pcL; rw [es]; simp [List.append_assoc]
    have eS : s :: (st ++ 34 :: ((bl x.f2).flatMap esc ++ 34 :: (bodyL false ms ++ 125 :: rest))) = sgL x.f0.toNat ++ 34 :: ((bl x.f2).flatMap esc ++ 34 :: (bodyL false ms ++ 125 :: rest)) := by rw [es]; rfl
    rw [eP] at hz2 ⊢
    rw [name_fwd _ s _ false hx.2 hs (by omega)]
    simp only [Option.bind_some]
    rw [eS] at hz2 ⊢
    have hk : x.f0.toNat ≤ 3 := by have := hx.1.2; omega
    rw [sign_fwd _ hk]
    simp only [Option.bind_some]
    rw [List.length_append, List.length_append] at hz2
    rw [value_fwd _ _ _ (by omega)]
    simp only [Option.bind_some]
    have e16 : ¬ 16 < o.length + 1 := by omega
    rw [if_neg e16]
    have eX : (⟨((x.f0.toNat : Nat) : Int), mk (bl x.f1), mk (bl x.f2)⟩ : Mt) = x := by
      rw [mk_bl, mk_bl, Int.toNat_of_nonneg hx.1.1]
    rw [eX]
    have := ih (o ++ [x]) d rest (fun y hy => hp y (by simp [hy])) (by simp; omega) (by simp; omega)
    rw [show decide ((o ++ [x]).length = 0) = false by simp] at this
    rw [this (by simp only [List.length_cons, List.length_append] at hz2 ⊢; omega)]
    simp
def txL (l : List Mt) : List UInt8 := 123 :: (bodyL true l ++ [125])
theorem all_fwd (ms : List Mt) (hp : ∀ x ∈ ms, okP x) (hn : ms.length ≤ 16) (hz : (txL ms).length ≤ 1000000) : labels_reader_all.f (mk (txL ms)) false = some (ms, mk [], false) := by
  unfold labels_reader_all.f
  unfold txL at hz ⊢
  have hz' : (bodyL true ms ++ [125]).length ≤ 1000000 := by simp only [List.length_cons] at hz; omega
  rw [take1_mk, if_pos rfl]
  simp only [Option.bind_some]
  have hA := allL_fwd ms [] 18 [] hp (by simpa using hn) (by simp) hz'
  rw [show decide (([] : List Mt).length = 0) = true from rfl] at hA
  rw [hA]
  simp only [Option.bind_some]
  rw [take1_mk, if_pos rfl]
  simp [mk_toList]
theorem pieceM_mk (x : Mt) : pieceM x = mk (pcL x) := by
  unfold pieceM pcL
  have h := quoted_mk (bl x.f2)
  rw [mk_bl] at h
  rw [h, sgn_mk]
  conv => lhs; rw [← mk_bl x.f1]
  rw [mk_append, mk_append, List.append_assoc]
theorem textL_mk : ∀ (l : List Mt) (i : Nat) (a : List UInt8), textL i (mk a) (l.map rfM) = mk (a ++ bodyL (decide (i = 0)) l) := by
  intro l
  induction l with
  | nil => intro i a; simp [textL, bodyL]
  | cons x l ih =>
    intro i a
    rw [List.map_cons]
    simp only [textL, bodyL]
    have hp : pieceR (mk a) i (rfM x) = mk (a ++ ((if decide (i = 0) = true then [] else [44]) ++ pcL x)) := by
      have hq : (rfM x).f1 ++ sgn (rfM x).f0.toNat ++ quotedR (rfM x).f2 = mk (pcL x) := pieceM_mk x
      unfold pieceR
      rw [hq]
      by_cases h : i = 0
      · rw [if_pos h, if_pos (decide_eq_true h), mk_append]; rfl
      · rw [if_neg h, if_neg (by rw [decide_eq_false h]; decide)]
        have : mk a ++ (⟨#[44]⟩ : ByteArray) = mk (a ++ [44]) := mk_append a [44]
        rw [this, mk_append, List.append_assoc]
    rw [hp, ih, show decide (i + 1 = 0) = false by simp]
    simp [List.append_assoc]
theorem textR_mk (l : List Mt) : textR (l.map rfM) = mk (txL l) := by
  unfold textR txL
  have := textL_mk l 0 [123]
  rw [show (⟨#[123]⟩ : ByteArray) = mk [123] from rfl, this]
  exact mk_append _ [125]
theorem joinTail_b (l : List Mt) : Lib.joinTail [44] (l.map pcL) = bodyL false l := by
  induction l with
  | nil => rfl
  | cons x l ih =>
    unfold Lib.joinTail at ih ⊢
    rw [List.map_cons, List.map_cons, List.flatten_cons, ih]
    simp [bodyL, List.append_assoc]
theorem join_b (l : List Mt) : Lib.join (l.map pcL) [44] = bodyL true l := by
  cases l with
  | nil => rfl
  | cons x l => rw [List.map_cons, Lib.join_cons, joinTail_b]; simp [bodyL]
theorem joinB_mk (l : List Mt) : joinB (l.map pieceM) = mk (bodyL true l) := by
  unfold joinB
  rw [List.map_map]
  have : l.map ((fun x : ByteArray => x.data.toList) ∘ pieceM) = l.map pcL := List.map_congr_left (fun x _ => by
    show (pieceM x).data.toList = pcL x
    rw [pieceM_mk, mk_dtl])
  rw [this, join_b]; rfl
theorem braced_mk (l : List Mt) : bracedR (l.map pieceM) = mk (txL l) := by
  unfold bracedR txL
  rw [joinB_mk]
  exact (congrArg (· ++ mk [125]) (mk_append [123] _)).trans (mk_append _ [125])
end Go.Proofs.Ytbfiacnmielajaa.P
namespace Go.Proofs.Ytbfiacnmielajaa.P
open Go.RowKit Go.Proofs.YtbfiacnmielajaaW.PrintWords Go.Proofs.YtbfiacnmielajaaW.PrintLast Go.Proofs.YtbfiacnmielajaaW.PrintMore
set_option linter.unusedVariables false
set_option linter.unusedSimpArgs false
theorem chk_false {c : Int} {f : Bool} (h : chk c f = true) : chk c false = true := by
  unfold chk at *
  by_cases h1 : 48 ≤ c ∧ c ≤ 57
  · rw [if_pos h1]; rfl
  · rw [if_neg h1] at h ⊢; exact h
theorem nameL_ok (l : List UInt8) : ∀ (d i : Nat), i + d = l.length → nameL (mk l) d i = true → ∀ c ∈ l.drop i, okN c = true := by
  intro d
  induction d with
  | zero => intro i hi _ c hc; rw [List.drop_of_length_le (by omega)] at hc; simp at hc
  | succ d ih =>
    intro i hi h c hc
    have hlt : i < l.length := by omega
    simp only [nameL, Bool.and_eq_true] at h
    rw [bt_mk l i hlt] at h
    rw [List.drop_eq_getElem_cons hlt] at hc
    rcases List.mem_cons.1 hc with rfl | hc
    · exact chk_false h.1
    · exact ih (i + 1) (by omega) h.2 c hc
theorem nameR_ok {s : ByteArray} (h : nameR s = true) : s.size ≤ 40 ∧ ∀ c ∈ bl s, okN c = true := by
  have h' := h
  unfold nameR at h'
  simp only [Bool.and_eq_true, decide_eq_true_eq] at h'
  refine ⟨h'.2.1, ?_⟩
  have := nameL_ok (bl s) s.size 0 (by rw [bl_size]; omega) (by rw [mk_bl]; exact h'.2.2)
  simpa using this
def okR (x : Rm) : Prop := 0 ≤ x.f0 ∧ x.f0 ≤ 3 ∧ nameR x.f1 = true ∧ x.f2.size ≤ 200
theorem chkL_zero : ∀ (l : List Rm) (p : Option ByteArray), chkL 0 p l = 0 → ∀ x ∈ l, okR x := by
  intro l
  induction l with
  | nil => intro p h x hx; simp at hx
  | cons y l ih =>
    intro p h x hx
    simp only [chkL] at h
    by_cases h0 : y.f0 < 0 ∨ y.f0 > 3
    · rw [if_pos ⟨trivial, h0⟩] at h; omega
    · rw [if_neg (fun e => h0 e.2)] at h
      by_cases h1 : nameR y.f1 = true
      · rw [if_pos h1] at h
        by_cases h2 : y.f2.size ≤ 200
        · rw [if_pos h2, if_neg (fun e => absurd e.1 (by decide))] at h
          rcases List.mem_cons.1 hx with rfl | hx
          · exact ⟨by omega, by omega, h1, h2⟩
          · exact ih _ h x hx
        · rw [if_neg h2] at h; omega
      · rw [if_neg h1] at h; omega
theorem checkR_zero {l : List Rm} (h : checkR 0 l = 0) : l.length ≤ 16 ∧ ∀ x ∈ l, okR x := by
  unfold checkR at h
  by_cases h1 : l.length > 16
  · rw [if_pos h1] at h; omega
  · rw [if_neg h1] at h; exact ⟨by omega, chkL_zero l none h⟩
theorem okP_of {x : Mt} (h : okR (rfM x)) : okP x := ⟨⟨h.1, h.2.1⟩, (nameR_ok h.2.2.1).2⟩
theorem esc_len (c : UInt8) : (esc c).length ≤ 2 := by unfold esc; split; simp; split <;> simp
theorem escs_len (v : List UInt8) : (v.flatMap esc).length ≤ 2 * v.length := by
  induction v with
  | nil => simp
  | cons c v ih => rw [List.flatMap_cons, List.length_append, List.length_cons]; have := esc_len c; omega
theorem sgL_len (i : Nat) : (sgL i).length ≤ 2 := by unfold sgL; split <;> simp
theorem pcL_len (x : Mt) : (pcL x).length ≤ x.f1.size + 2 * x.f2.size + 4 := by
  unfold pcL
  have h1 := escs_len (bl x.f2)
  have h2 := sgL_len x.f0.toNat
  rw [bl_size] at h1
  simp only [List.length_append, List.length_cons, List.length_nil, bl_size]
  omega
theorem bodyL_len (n : Nat) : ∀ (l : List Mt) (b : Bool), (∀ x ∈ l, (pcL x).length ≤ n) → (bodyL b l).length ≤ l.length * (n + 1) := by
  intro l
  induction l with
  | nil => intro b h; simp [bodyL]
  | cons x l ih =>
    intro b h
    have h1 := h x (by simp)
    have h2 := ih false (fun y hy => h y (by simp [hy]))
    simp only [bodyL, List.length_append, List.length_cons]
    rw [Nat.add_mul]
    have h3 : (if b = true then ([] : List UInt8) else [44]).length ≤ 1 := by split <;> simp
    omega
theorem txL_len {l : List Mt} (h : checkR 0 (l.map rfM) = 0) : (txL l).length ≤ 8000 ∧ (bodyL true l).length ≤ 8000 := by
  obtain ⟨h1, h2⟩ := checkR_zero h
  rw [List.length_map] at h1
  have := bodyL_len 444 l true (fun x hx => by
    have h3 := h2 (rfM x) (List.mem_map_of_mem hx)
    have h4 := (nameR_ok h3.2.2.1).1
    have h5 := h3.2.2.2
    have h6 := pcL_len x
    have e1 : (rfM x).f1 = x.f1 := rfl
    have e2 : (rfM x).f2 = x.f2 := rfl
    rw [e1] at h4; rw [e2] at h5
    omega)
  have h7 : l.length * (444 + 1) ≤ 16 * 445 := Nat.mul_le_mul_right _ h1
  unfold txL
  simp only [List.length_cons, List.length_append, List.length_nil]
  omega
theorem name_small {l : List Mt} (h : checkR 0 (l.map rfM) = 0) : ∀ x ∈ l, x.f1.size ≤ 40 := fun x hx =>
  (nameR_ok ((checkR_zero h).2 (rfM x) (List.mem_map_of_mem hx)).2.2.1).1
theorem parseM_fwd (ms : List Mt) (h : checkR 0 (ms.map rfM) = 0) : labels_ParseMatchers.f (mk (txL ms)) = some (ms, 0) := by
  have h1 := checkR_zero h
  unfold labels_ParseMatchers.f
  rw [all_fwd ms (fun x hx => okP_of (h1.2 (rfM x) (List.mem_map_of_mem hx))) (by simpa using h1.1) (by have := (txL_len h).1; omega)]
  simp only [Option.bind_some]
  rw [if_neg (by decide), checkM_eq ms (fun _ x hx => by have := name_small h x hx; omega) 3000 (by omega), h]
  rfl
theorem okM_of {x : Rm} (h : okR x) : okM x.f0 x.f1 x.f2 := ⟨h.1, h.2.1, by have := (nameR_ok h.2.2.1).1; omega, by have := h.2.2.2; omega⟩
theorem refText_eq (l : List Mt) (h : checkR 0 (l.map rfM) = 0) : tidepoleref30_Text.f (l.map rfM) = some (mk (txL l)) := by
  obtain ⟨h1, h2⟩ := checkR_zero h
  unfold tidepoleref30_Text.f
  rw [if_pos ⟨by omega, fun x hx => okM_of (h2 x hx)⟩, textR_mk]
theorem braced_eq (l : List Mt) (h : checkR 0 (l.map rfM) = 0) : labels_braced.f (l.map pieceM) = some (mk (txL l)) := by
  obtain ⟨h1, h2⟩ := checkR_zero h
  rw [List.length_map] at h1
  unfold labels_braced.f
  rw [if_pos ⟨by rw [List.length_map]; omega, by rw [joinB_mk, mk_size]; have := (txL_len h).2; omega⟩, braced_mk]
theorem textM_eq (l : List Mt) (hn : l.length ≤ 16 → ∀ x ∈ l, x.f1.size ≤ 2500) : labels_TextMatchers.f l = some (if checkR 0 (l.map rfM) = 0 then (mk (txL l), 0) else (⟨#[]⟩, checkR 0 (l.map rfM))) := by
  unfold labels_TextMatchers.f
  rw [checkM_eq l hn 3000 (by omega)]
  simp only [Option.bind_some]
  by_cases h : checkR 0 (l.map rfM) = 0
  · obtain ⟨h1, h2⟩ := checkR_zero h
    rw [List.length_map] at h1
    rw [if_neg (fun e => e h), if_pos ⟨h1, fun x hx => okM_of (h2 (rfM x) (List.mem_map_of_mem hx))⟩, braced_eq l h, if_pos h]; rfl
  · rw [if_pos h, if_neg h]
end Go.Proofs.Ytbfiacnmielajaa.P
namespace Go.Proofs.Ytbfiacnmielajaa.P
open Go.RowKit Go.Proofs.YtbfiacnmielajaaW.PrintWords Go.Proofs.YtbfiacnmielajaaW.PrintLast Go.Proofs.YtbfiacnmielajaaW.PrintMore
set_option linter.unusedVariables false
set_option linter.unusedSimpArgs false
theorem toList_d (s : ByteArray) : s.toList = s.data.toList := Go.ByteArray.toList_eq s
theorem toList_inj {a b : ByteArray} : a.toList = b.toList ↔ a = b := by
  rw [toList_d, toList_d]; exact ⟨fun h => ByteArray.ext (Array.toList_inj.1 h), fun h => by rw [h]⟩
instance decRm : DecidableEq Rm := fun x y => decidable_of_iff (x.f0 = y.f0 ∧ x.f1 = y.f1 ∧ x.f2 = y.f2) (by
  obtain ⟨a, b, c⟩ := x
  obtain ⟨d, e, g⟩ := y
  simp)
theorem same_l0 (l m : List Rm) (hl : l.length ≤ 1000000) (hm : l.length = m.length) : ∀ (d k i : Nat), i + d = l.length → d < k → tidepolelaw30_same.l0 k l m (l.length : Int) (i : Int) = some (decide (l.drop i = m.drop i)) := by
  intro d
  induction d with
  | zero =>
    intro k i hi hk
    obtain ⟨k, rfl⟩ : ∃ q, k = q + 1 := ⟨k - 1, by omega⟩
    simp only [tidepolelaw30_same.l0]
    rw [if_neg (by omega), List.drop_of_length_le (show l.length ≤ i by omega), List.drop_of_length_le (show m.length ≤ i by omega)]
    rfl
  | succ d ih =>
    intro k i hi hk
    obtain ⟨k, rfl⟩ : ∃ q, k = q + 1 := ⟨k - 1, by omega⟩
    have hlt : i < l.length := by omega
    simp only [tidepolelaw30_same.l0]
    rw [if_pos (by omega), if_pos (by omega), if_pos (by omega), if_pos (by omega), rdR_ l i hlt, rdR_ m i (by omega), wrS (by omega), ih k (i + 1) (by omega) (by omega), List.drop_eq_getElem_cons hlt, List.drop_eq_getElem_cons (show i < m.length by omega)]
    generalize l[i] = x
    generalize m[i]'(by omega) = y
    obtain ⟨a, b, c⟩ := x
    obtain ⟨d1, e, g⟩ := y
    dsimp only
    by_cases h0 : a = d1
    · by_cases h1 : b = e
      · by_cases h2 : c = g
        · subst h0 h1 h2; simp
        · have h2' : ¬ c.toList = g.toList := fun h => h2 (toList_inj.1 h)
          simp [h0, h1, h2, h2']
      · have h1' : ¬ b.toList = e.toList := fun h => h1 (toList_inj.1 h)
        simp [h0, h1, h1']
    · simp [h0]
theorem same_eq (l m : List Rm) (hl : l.length ≤ 1000000) (k : Nat) (hk : l.length < k) : tidepolelaw30_same.f k l m = some (decide (l = m)) := by
  unfold tidepolelaw30_same.f
  by_cases h : l.length = m.length
  · rw [if_pos (by omega), show (0 : Int) = ((0 : Nat) : Int) from rfl, same_l0 l m hl h l.length k 0 (by omega) hk]; rfl
  · rw [if_neg (by omega), decide_eq_false (fun e => h (by rw [e]))]
end Go.Proofs.Ytbfiacnmielajaa.P
namespace Go.Proofs.Ytbfiacnmielajaa.P
open Go.RowKit Go.Proofs.YtbfiacnmielajaaW.PrintWords Go.Proofs.YtbfiacnmielajaaW.PrintLast Go.Proofs.YtbfiacnmielajaaW.PrintMore
set_option linter.unusedVariables false
set_option linter.unusedSimpArgs false
theorem small_mem {l : List Rm} (h : smallB l = true) : l.length ≤ 30 ∧ ∀ x ∈ l, x.f1.size ≤ 100 ∧ x.f2.size ≤ 300 := by
  unfold smallB at h
  simp only [Bool.and_eq_true, decide_eq_true_eq, List.all_eq_true] at h
  refine ⟨h.2, fun x hx => ?_⟩
  have := h.1 x hx
  unfold smB at this
  simpa using this
theorem e0 : (⟨#[]⟩ : ByteArray).toList = [] := by rw [Go.ByteArray.toList_eq]
theorem labelsMatchers_f (a : List Mt) (ha : a.length ≤ 3518437208883) : tidepolelaw30_LabelsMatchers.f (a.length + 10000) a = some true := by
  unfold tidepolelaw30_LabelsMatchers.f
  rw [refs_eq a ha _ (by omega)]
  simp only [Option.bind_some]
  rw [small_eq _ (by simpa using ha) _ (by rw [List.length_map]; omega)]
  simp only [Option.bind_some]
  cases hs : smallB (a.map rfM) with
  | false => rw [if_neg (by decide)]; rfl
  | true =>
    obtain ⟨hl, hm⟩ := small_mem hs
    rw [List.length_map] at hl
    have hn : ∀ x ∈ a, x.f1.size ≤ 100 := fun x hx => (hm (rfM x) (List.mem_map_of_mem hx)).1
    have hT := textM_eq a (fun _ x hx => by have := hn x hx; omega)
    rw [if_pos rfl, check_eq _ 0 (.inl rfl) _ (by omega), checkM_eq a (fun _ x hx => by have := hn x hx; omega) _ (by omega)]
    obtain ⟨k, hk⟩ : ∃ k, a.length + 10000 = k + 1 ∧ k = a.length + 9999 := ⟨a.length + 9999, by omega, rfl⟩
    rw [hk.1]
    by_cases h : checkR 0 (a.map rfM) = 0
    · rw [if_pos h] at hT
      have hr := refs_eq a ha k (by omega)
      have hs2 := same_eq (a.map rfM) (a.map rfM) (by simp; omega) k (by simp; omega)
      simp [hT, h, tidepolelaw30_LabelsMatchers.j0, parseM_fwd a h, refText_eq a h, hr, hs2, tidepolelaw30_awake.f]
    · rw [if_neg h] at hT
      simp [hT, h, tidepolelaw30_LabelsMatchers.j0, tidepolelaw30_awake.f, e0]
end Go.Proofs.Ytbfiacnmielajaa.P
namespace Go.Proofs.Ytbfiacnmielajaa.P
set_option linter.unusedVariables false
theorem Pure.LabelsMatchers (x0 : List Mt) (w0 : ∀ x ∈ x0, wf42 x) (h0 : x0.length * 40 ≤ 140737488351232) : ∃ k, tidepolelaw30_LabelsMatchers.f k x0 = some true := ⟨_, labelsMatchers_f x0 (by omega)⟩
end Go.Proofs.Ytbfiacnmielajaa.P
namespace Go.Proofs.Ytbfiacnmielajaa.labelsMatchers
open Go.ChangeShapes Go.WideShapes Go.ChangeAt Go.RowKit Go.Proofs.Ytbfiacnmielajaa.P Go.Proofs.YtbfiacnmielajaaW.PrintWords
set_option linter.unusedVariables false
theorem own : ownKnob Try.prog.godebug = none := by kernel_rfl
theorem laidOut : laidOutB Try.prog = true := by kernel_rfl
theorem len_sized {H : Type} {enc : TypeId × Value → H} {P : Program} {ts : List TypeId} {ds : List (DataW H)} (h : (DataW.weightsEach P ts ds).all (· ≤ reachBytes) = true) {j : Nat} {w : World} {base : Nat} {sp : Nat → Bool} {held : Bool} {fuel : Nat} {t e : TypeId} {A : Option Addr} {n c : Nat} {d : DataW H} {ps : List MemPlace} (ht : ts[j]? = some t) (hd : ds[j]? = some d) (hu : P.underlying t = some (.slice e)) (hT : DataW.trod enc P w base sp held fuel t [.slice A n c] = some (d, ps)) : n * P.bytesOf e ≤ reachBytes := by
  rcases DataW.trod_slice hu hT with ⟨h1, h2⟩ | ⟨a, len, cap, el, re, m, _, h1, h2, _, _, _, hl, _⟩
  · injection h1 with h1 _; injection h1 with _ h1 _; subst h1; simp
  · injection h1 with h1 _; injection h1 with _ h1 _
    injection h2 with h2 _
    subst h2
    have := sized_slice h ht hd hu
    rw [List.length_map] at this
    subst h1
    exact Nat.le_trans (Nat.mul_le_mul_right _ (by omega)) this
set_option maxRecDepth 100000 in
set_option maxHeartbeats 4000000 in
theorem lifted (os : Os) (started : os.Started) (H : Type) (enc : TypeId × Value → H) :
    ReturnsInHanded {} Try.checked os 8 .any (Rows.labelsMatchersSpec.pre6 enc Try.prog Try.f8 Rows.labelsMatchersRow.domain false) (Rows.labelsMatchersSpec.post enc Try.prog Try.f8 false true false false) := by
  refine returnsInHanded_of_change_sized (C := Try.checked) own started (by kernel_rfl) Try.func8
    (ChangeSpec.witness6 (enc := enc) (C := Try.checked) false ⟨#[], #[.slice none 0 0], []⟩ 8 (by kernel_rfl) (by kernel_rfl) (by kernel_rfl) (by kernel_rfl)) ?_
  intro W base args ds gs before hval0 hW hcnd hsz0 _
  have hval : ∀ (j : Nat) t v, Try.f8.params[j]? = some t → args[j]? = some v → Value.okWide Try.prog W .any base t v := hval0
  have hW' := hW
  obtain ⟨p, q, hA0, hV, rfl, hfz, hnd⟩ := hW
  have hA : DataW.TrodAll enc Try.prog W 0 (fun _ => true) true Try.f8.params.toList args.toList ds p := hA0
  rw [Try.params8] at hA hval
  obtain ⟨v0, vs0, d0, ds0, p0, q0, hargs, rfl, rfl, h0, r0⟩ := trodAll_cons hA
  obtain ⟨rfl, rfl, rfl⟩ := trodAll_nil r0
  obtain rfl : args = #[v0] := by cases args; simp_all
  obtain ⟨rfl, rfl⟩ := trodVars_none hV
  have k0 := h0
  have lt0 : ∀ x ∈ p0, x.block < W.heap.size := by obtain ⟨m, hm⟩ := k0; exact DataW.trod_lt m _ _ _ hm
  obtain ⟨fu0, hf0⟩ := h0
  obtain ⟨x0, hK0, w0⟩ := (opens_slice (d := k42) Try.underlying37 (by kernel_rfl) opens42) enc W 0 _ true fu0 _ _ hf0
  obtain ⟨va0, vl0, vc0, rfl⟩ := okWide_slice Try.underlying37 (hval 0 37 v0 rfl rfl)
  obtain ⟨A0, c0, he0, h0_l, hC0⟩ := hK0
  simp [Value.cells] at he0
  obtain ⟨rfl, rfl, rfl⟩ := he0
  have g0 : x0.length * 40 ≤ 140737488351232 := by
    have h_ : x0.length * Try.prog.bytesOf 42 ≤ reachBytes := len_sized (j := 0) hsz0 rfl rfl Try.underlying37 hf0
    rw [show Try.prog.bytesOf 42 = 40 from by kernel_rfl, show reachBytes = 140737488351232 from rfl] at h_
    exact h_
  clear hA0 hval0 hsz0
  obtain ⟨k, hk⟩ := Pure.LabelsMatchers x0 w0 g0
  refine (P.tidepolelaw30_LabelsMatchers.calls k va0 vc0 x0 true W hC0 h0_l hk).mono fun e W' ⟨he, bel⟩ => ?_
  subst he
  exact ⟨_, rfl, _, _, _, [], _, [], hW', trodAll_mk1 (shut_bool Try.underlying4 _), (trodAll_cons_mk (Below.trod laidOut (by kernel_rfl) (of_decide_eq_true (by kernel_rfl)) k0 bel lt0) trodAll_mk0), rfl, bel.frame _, fun h => by cases h⟩
theorem cf0 : (Rows.labelsMatchersRow.wf (OpenSpec.ofChange Rows.labelsMatchersSpec)) = true := by kernel_rfl
theorem cf1 : (laidOutB Try.prog) = true := P.head_laidOut
theorem cf2 : (mapsRowed Try.prog) = true := P.head_mapsRowed
theorem cf3 : (Try.f8.params.all (Try.prog.readableRec ·)) = true := by kernel_rfl
theorem cf4 : (namedTie Try.prog Rows.labelsMatchersRow.named Rows.labelsMatchersSpec.vars) = true := by kernel_rfl
theorem cf5 : ((Rows.labelsMatchersRow.stops == [])) = true := by kernel_rfl
theorem cf6 : ((Try.prog.stops == [])) = true := P.head_stops
theorem cf7 : ((Rows.labelsMatchersRow.knobs == [])) = true := by kernel_rfl
theorem cf8 : ((Try.prog.stopKnobs == [])) = true := P.head_stopKnobs
theorem cf9 : ((Rows.labelsMatchersRow.inPlace == Try.prog.inPlace 8)) = true := by kernel_rfl
theorem cf10 : ((Rows.labelsMatchersRow.unfollowed == Try.prog.unfollowed 8)) = true := by kernel_rfl
theorem cf11 : ((Rows.labelsMatchersRow.recurses == Try.prog.recurses 8)) = true := by kernel_rfl
theorem cf12 : ((Rows.labelsMatchersRow.named == Try.prog.varsNamed 8)) = true := by kernel_rfl
theorem cf13 : ((Rows.labelsMatchersRow.maps == (Try.f8.params.toList ++ Rows.labelsMatchersSpec.plain.varTypes Try.prog).any (Try.prog.mapsRec ·))) = true := by kernel_rfl
theorem cf14 : ((Rows.labelsMatchersRow.ifaces == (Try.f8.params.toList ++ Rows.labelsMatchersSpec.plain.varTypes Try.prog).any (Try.prog.ifacesRec ·))) = true := by kernel_rfl
theorem cf15 : ((Rows.labelsMatchersRow.mapsOut == Try.prog.mapsAmong Try.f8.resultTypes.toList)) = true := by kernel_rfl
theorem cf16 : ((Rows.labelsMatchersRow.loops == (Try.f8.params.toList ++ Rows.labelsMatchersSpec.plain.varTypes Try.prog).any (Try.prog.loopsFrom ·))) = true := by kernel_rfl
theorem cf17 : ((Rows.labelsMatchersRow.wideKeys == (Try.f8.params.toList ++ Rows.labelsMatchersSpec.plain.varTypes Try.prog ++ Try.f8.resultTypes.toList).any (Try.prog.wideKeysFrom ·))) = true := by kernel_rfl
theorem cf18 : (Rows.labelsMatchersSpec.vars.all (Try.prog.varReadable ·)) = true := by kernel_rfl
theorem cf19 : (Try.f8.resultTypes.all (fun t => Try.prog.readableRec t && decide (t < Try.prog.types.size))) = true := by kernel_rfl
theorem cf20 : ((Rows.labelsMatchersRow.ifacesOut == Try.f8.resultTypes.toList.any (Try.prog.ifacesRec ·))) = true := by kernel_rfl
theorem cf21 : ((Rows.labelsMatchersRow.loopsOut == Try.f8.resultTypes.toList.any (Try.prog.loopsFrom ·))) = true := by kernel_rfl
theorem cf22 : ((Rows.labelsMatchersRow.plainKeys == Try.prog.plainKeys)) = true := by rw [P.head_plainKeys]; kernel_rfl
theorem cf23 : (Rows.labelsMatchersRow.shortTexts.isNone) = true := by kernel_rfl
theorem cf24 : (Try.prog.stopsHeard) = true := P.head_stopsHeard
theorem cf25 : (Try.prog.mayEnter) = true := P.head_mayEnter
theorem cf26 : ((Rows.labelsMatchersRow.lifted == Try.prog.liftsFinal)) = true := by rw [P.head_liftsFinal]; kernel_rfl
theorem cf27 : ((Try.prog.make == some Rows.labelsMatchersRow.make)) = true := by rw [P.head_make]; kernel_rfl
theorem cf28 : ((Rows.labelsMatchersRow.kinds == (if Rows.labelsMatchersRow.domain.isEmpty then [] else Try.f8.params.toList.map fun t => match Try.prog.underlying t with | some (.int k) => some k | _ => none))) = true := by kernel_rfl
theorem cf29 : ((Rows.labelsMatchersRow.pinned == Rows.labelsMatchersRow.pinnedBy)) = true := by kernel_rfl
theorem cf30 : ((Rows.labelsMatchersRow.veiled == (Try.f8.params.toList ++ Rows.labelsMatchersSpec.plain.varTypes Try.prog ++ Try.f8.resultTypes.toList).any (Try.prog.veiledRec ·))) = true := by kernel_rfl
theorem cf31 : (Rows.labelsMatchersRow.veiledFits Try.prog Try.f8.params.toList (Try.f8.params.toList ++ Rows.labelsMatchersSpec.plain.varTypes Try.prog ++ Try.f8.resultTypes.toList)) = true := by kernel_rfl
theorem band_mk {a b : Bool} (h : a = true) (k : b = true) : (a && b) = true := by rw [h, k]; rfl
theorem closed : joinedFacts Try.prog 8 Try.f8 Rows.labelsMatchersSpec Rows.labelsMatchersRow = true := by unfold joinedFacts; exact (band_mk (band_mk (band_mk (band_mk (band_mk (band_mk (band_mk (band_mk (band_mk (band_mk (band_mk (band_mk (band_mk (band_mk (band_mk (band_mk (band_mk (band_mk (band_mk (band_mk (band_mk (band_mk (band_mk (band_mk (band_mk (band_mk (band_mk (band_mk (band_mk (band_mk (band_mk cf0 cf1) cf2) cf3) cf4) cf5) cf6) cf7) cf8) cf9) cf10) cf11) cf12) cf13) cf14) cf15) cf16) cf17) cf18) cf19) cf20) cf21) cf22) cf23) cf24) cf25) cf26) cf27) (by kernel_rfl)) cf29) cf30) cf31)
theorem over : Rows.labelsMatchersRow.holds Try.pinned (OpenSpec.ofChange Rows.labelsMatchersSpec) :=
  OpenClaim.holds_of_wide 8 Try.f8 rfl rfl rfl rfl rfl rfl rfl ⟨rfl, rfl, rfl, rfl, rfl⟩ rfl rfl rfl rfl rfl (by kernel_rfl) Try.func8 closed
    (of_decide_eq_true (by kernel_rfl)) (by unfold Func.isWrapper; first | (rw [if_pos (by decide +kernel)]; kernel_rfl) | (rw [if_neg (by decide +kernel)]; exact ⟨rfl, rfl⟩))
    (fun os started H enc _ => lifted os started H enc)
theorem proved : Rows.LabelsMatchersSaid := over
#print axioms proved
end Go.Proofs.Ytbfiacnmielajaa.labelsMatchers
namespace Go.Proofs.Ytbfiacnmielajaa
theorem labelsMatchers_holds : Rows.LabelsMatchersSaid := labelsMatchers.proved
end Go.Proofs.Ytbfiacnmielajaa
