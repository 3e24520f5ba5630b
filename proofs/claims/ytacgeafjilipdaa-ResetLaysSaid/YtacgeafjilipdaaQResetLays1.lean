/- ResetLays: the part that this text bears of the proof that the statement answers true for every input. No condition. -/
import Derived.Test.YtacgeafjilipdaaProg
import Derived.Below
import Derived.Deep.Draws
import Derived.Deep.AppendLies
import Derived.Maps.AppendAt
import Derived.OwnWalk
import Derived.Laws.BytesArg
import Derived.Laws.MakeOwn
import Derived.Laws.OwnMore
import Derived.Deep.OwnRows
import Derived.Tactics
import Derived.Lib.ConvBytes
import Derived.Laws.Slices
import Derived.WalkKit
import Derived.KernelRfl
import Derived.RowKit3
import Derived.Deep.LoopGhost
import Derived.Deep.QuietTactic
import Derived.BigQuiet
import Derived.WideLaws
import Derived.Deep.DeepCutAuto
import Derived.Deep.CutBlock
import Derived.Deep.RegionHeld3
import Derived.Laws.Rows
import Derived.Lib.AppendStr
import Derived.ArgAppend
import Derived.Laws.IdiomCopy
import Derived.OrdersHeld
import Derived.Laws.BitsLemmas
import Derived.RowKit
import Derived.Deep.Slices
import Derived.ChangeArms
import Derived.Shelf.Abstract
import Derived.WalkSpells
import Derived.RangeFuncNested
import Derived.RangeFuncBound
import Derived.RangeFuncCalls
import Derived.RangeFuncLeaves
import Derived.RangeFuncBox
import Derived.OwnWalkIn
import Derived.TacticsInMore
import Derived.LoopNIn
import Derived.LoopIn
import Derived.Laws.Externs
import Derived.Shelf.Spec.BitsCarry
import Derived.RegionIn
import Derived.Sort.QuietTacIn
import Derived.Deep.RegionWith
import Derived.Laws.BitsAllLaws
import Derived.ProofKit
import Derived.JoinedOf
import Derived.OpenShut
import Derived.ShutString
import Derived.ChangeOld
import Derived.SizedLaws
import Derived.Test.YtacgeafjilipdaaQResetLaysWWords
import Derived.Test.YtacgeafjilipdaaQResetLaysWLast
import Derived.Test.YtacgeafjilipdaaQResetLaysWTab
import Derived.Test.YtacgeafjilipdaaQResetLaysWFour
import Derived.Test.YtacgeafjilipdaaQResetLaysWQPut
import Derived.Test.YtacgeafjilipdaaQResetLaysWApart
import Derived.Test.YtacgeafjilipdaaQResetLaysWArr
import Derived.Test.YtacgeafjilipdaaQResetLaysWZeros
import Derived.Test.YtacgeafjilipdaaQResetLaysWFoot
import Derived.Test.YtacgeafjilipdaaQResetLaysWKept
import Derived.Test.YtacgeafjilipdaaQResetLaysWShare
import Derived.Test.YtacgeafjilipdaaQResetLaysWN
import Derived.Test.YtacgeafjilipdaaQResetLaysWFootNe
import Derived.Test.YtacgeafjilipdaaQResetLaysWAt
import Derived.Test.YtacgeafjilipdaaQResetLaysWEqStruct
import Derived.Test.YtacgeafjilipdaaQResetLaysWRepsOne
import Derived.Test.YtacgeafjilipdaaQResetLaysWInv
import Derived.Test.YtacgeafjilipdaaQResetLaysWInvWords
import Derived.Test.YtacgeafjilipdaaQResetLaysWGuard
import Derived.Test.YtacgeafjilipdaaQResetLaysWNEv
import Derived.Test.YtacgeafjilipdaaQResetLaysWMore
import Derived.Test.YtacgeafjilipdaaRows
import Derived.Test.YtacgeafjilipdaaQResetLays0
namespace Go.Proofs.Ytacgeafjilipdaa.P
open Go.RowKit Go.Proofs.YtacgeafjilipdaaW.PrintWords Go.Proofs.YtacgeafjilipdaaW.PrintLast Go.Proofs.YtacgeafjilipdaaW.PrintMore
attribute [local go_sem] max2_int min2_int max_two min_two max_three min_three max_four min_four
set_option linter.unusedVariables false
set_option linter.unusedSimpArgs false
def pairs_Zip_uint64.l0 : Nat → List Int → List (S123) → List Int → Int → Int → Option ((List (S123)) × Int)
 | 0, _, _, _, _, _ => none
 | k + 1, x1, x8, x26, x27, x28 => if x28 < x27 then (if 0 ≤ x28 then (if x28 < (x26.length : Int) then (if x28 < (x1.length : Int) then (if x8.length < 8796093022208 then (pairs_Zip_uint64.l0 k x1 (x8 ++ [(⟨rd x26 x28, rd x1 x28⟩ : S123)]) x26 x27 (wrap64 (x28 + 1))) else (none)) else (none)) else (none)) else (none)) else (some (x8, 0))
def pairs_Zip_uint64.f (k : Nat) (l0 : List (S144)) (l1 : List Int) : Option ((List (S123)) × Int) := (span_Places.f k l0).bind fun bt101 => (if bt101.2 = 0 then (if (bt101.1.length : Int) = (l1.length : Int) then (pairs_Zip_uint64.l0 k l1 ([] : List (S123)) bt101.1 (bt101.1.length : Int) 0) else (some (([] : List (S123)), 10))) else (some (([] : List (S123)), bt101.2)))
set_option maxHeartbeats 8000000 in
set_option maxRecDepth 100000 in
theorem pairs_Zip_uint64.calls (k : Nat) (A0 : Option Addr) (c0 : Nat) (l0 : List (S144)) (A1 : Option Addr) (c1 : Nat) (l1 : List Int) (r1 : List (S123)) (r2 : Int) (w : World) (hr0 : Kd.C k144 w A0 l0.length l0) (hc0 : l0.length ≤ c0) (hr1 : Kd.C (Kd.int .u64) w A1 l1.length l1) (hc1 : l1.length ≤ c1) (h : pairs_Zip_uint64.f k l0 l1 = some (r1, r2)) :
  Calls Try.prog 195 #[.slice A0 l0.length c0, .slice A1 l1.length c1] w fun e w' => ∃ v0_ : Value, e = .returned (.tuple #[v0_, .int .i64 r2]) ∧ Kd.R k123 123 w' w.heap.size (fun _ => True) v0_ r1 ∧ Below w.heap.size w w' := by
 have hu123 := Try.underlying123
 have HR0 := Aside0.mk hr0
 have HC0 := Aside0.mk hc0
 clear hr0 hc0
 have HR1 := Aside0.mk hr1
 have HC1 := Aside0.mk hc1
 clear hr1 hc1
 have HB := Aside0.mk (Below.refl w.heap.size w)
 have H : ((span_Places.f k l0).bind fun bt101 => (if bt101.2 = 0 then (if (bt101.1.length : Int) = (l1.length : Int) then (pairs_Zip_uint64.l0 k l1 ([] : List (S123)) bt101.1 (bt101.1.length : Int) 0) else (some (([] : List (S123)), 10))) else (some (([] : List (S123)), bt101.2)))) = some (r1, r2) := h
 clear h
 replace H := Option.bind_eq_some_iff.mp H
 obtain ⟨⟨t101, t102⟩, A30, H⟩ := H
 replace H : (if t102 = 0 then (if (t101.length : Int) = (l1.length : Int) then (pairs_Zip_uint64.l0 k l1 ([] : List (S123)) t101 (t101.length : Int) 0) else (some (([] : List (S123)), 10))) else (some (([] : List (S123)), t102))) = some (r1, r2) := H
 have A3 := Aside0.mk A30
 clear A30
 by_cases c4 : t102 = 0
 ·rw [if_pos c4] at H
  have c4b0 : (t102 == 0) = true := beq_iff_eq.mpr c4
  have c4b1 : (t102 != 0) = false := bne_eq_false_iff_eq.mpr c4
  clear c4
  by_cases c5 : (t101.length : Int) = (l1.length : Int)
  ·rw [if_pos c5] at H
   have c5b0 : ((t101.length : Int) == (l1.length : Int)) = true := beq_iff_eq.mpr c5
   have c5b1 : ((t101.length : Int) != (l1.length : Int)) = false := bne_eq_false_iff_eq.mpr c5
   have c5b2 : (t101.length == l1.length) = true := by first | simpa using c5 | (simp at c5 ⊢; omega)
   clear c5
   have H' := Aside0.mk H
   clear H
   go_enter Try.func195, Try.ntmps195
   go_wp2_with (first | ((with_reducible refine gate_callee (f := 129) rfl ?_); refine goesL_ (some 13) rfl rfl Try.func129 (by kernel_rfl) rfl #[.slice A0 l0.length c0] rfl (by (try simp only [List.map_toArray, List.map_cons, List.map_nil]); first | done | rfl | (simp only [List.length_drop, List.length_take]; rfl)) ?_; (with_reducible refine (span_Places.calls k _ _ l0 t101 t102 _ ?side1 ?side2 A3.out).mono ?_); (case side1 => repeat (first | exact HR0.out | (with_reducible refine Kd.C_alloc ?_ _) | (with_reducible refine Kd.C_drewN ?_ _) | (with_reducible refine Kd.C_drew ?_))); (case side2 => exact HC0.out); rintro e w6 ⟨v103, rfl, ho0, hb⟩; refine ⟨_, rfl, ?_⟩; have n0_ := Aside0.mk (Kd.R_lower ho0 (below_size (by repeat (first | (with_reducible first | exact HB.out | apply below_alloc | apply pw_below_drewN | apply below_drew1) | exact HB.out)))); have n1_ := Aside0.mk (below_step (by repeat (first | (with_reducible first | exact HB.out | apply below_alloc | apply pw_below_drewN | apply below_drew1) | exact HB.out)) hb); clear HB; have HO104 := n0_; have HB := n1_; clear n0_ n1_; (try clear hb); (try clear hb2); (try clear hk); (try clear hi); (try clear ho0); clear A3; obtain ⟨Ao7, co7, eo7⟩ := Kd.R_slice HO104.out; subst eo7))
   go_loopg [8, 28] k (fun kq v8 v28 w' => ∃ (x8_1 : List (S123)) (x28_1 : Int), v28 = .int .i64 x28_1 ∧ Aside0 (pairs_Zip_uint64.l0 kq l1 x8_1 t101 (t101.length : Int) x28_1 = some (r1, r2)) ∧ Aside0 (kq ≤ k) ∧ Aside0 (Kd.R k123 123 w' w.heap.size (fun _ => True) v8 x8_1) ∧ Aside0 (Kd.R (Kd.int .i64) 3 w' w.heap.size (fun _ => True) (.slice Ao7 t101.length co7) t101) ∧ Aside0 (Below w.heap.size w w'))
   case atStart => exact ⟨(([] : List (S123))), (0), (by first | rfl | (simp; done) | (simp [*]; done)), H', ⟨Nat.le_refl _⟩, ⟨by first | exact Kd.R_nil _ _ _ _ _ | exact Kd.N_nil _ _ _ _ _ | exact Kd.V_nil _ _ _ _ _ | exact Kd.Q_nil _ _ _ _ _ | exact Kd.S_nil _ _ _ _ _⟩, ⟨by (with_reducible repeat (first | apply Kd.R_alloc | apply Kd.R_drewN | apply Kd.R_drew)); exact HO104.out⟩, ⟨by repeat (first | (with_reducible first | exact HB.out | apply below_alloc | apply pw_below_drewN | apply below_drew1) | exact HB.out)⟩⟩
   case round =>
    clear H'
    try clear c1
    try clear p2
    try clear c4
    try clear c4b0
    try clear c4b1
    try clear c5
    try clear c5b0
    try clear c5b1
    try clear c5b2
    obtain ⟨x8_1, x28_1, rfl, HA, HK1, HO_8, HO_26, HB⟩ := hrel
    cases gk with
    | zero => exact absurd HA.out (by simp [pairs_Zip_uint64.l0])
    | succ k1 =>
     have H := HA.out
     clear HA
     simp only [pairs_Zip_uint64.l0] at H
     by_cases c8 : x28_1 < (t101.length : Int)
     ·rw [if_pos c8] at H
      have c8b0 : decide (x28_1 < (t101.length : Int)) = true := decide_eq_true c8
      clear c8
      by_cases c9 : 0 ≤ x28_1
      ·rw [if_pos c9] at H
       have c9b0 : decide (0 ≤ x28_1) = true := decide_eq_true c9
       clear c9
       by_cases c10 : x28_1 < (t101.length : Int)
       ·rw [if_pos c10] at H
        have c10b0 : decide (x28_1 < (t101.length : Int)) = true := decide_eq_true c10
        clear c10
        by_cases c11 : x28_1 < (l1.length : Int)
        ·rw [if_pos c11] at H
         have c11b0 : decide (x28_1 < (l1.length : Int)) = true := decide_eq_true c11
         clear c11
         by_cases c12 : x8_1.length < 8796093022208
         ·rw [if_pos c12] at H
          have LMc12 := Aside0.mk c12
          clear c12
          obtain ⟨y107, hy107⟩ : ∃ y_ : List (S123), y_ = (x8_1 ++ [(⟨rd t101 x28_1, rd l1 x28_1⟩ : S123)]) := ⟨_, rfl⟩
          replace H : (pairs_Zip_uint64.l0 k1 l1 y107 t101 (t101.length : Int) (wrap64 (x28_1 + 1))) = some (r1, r2) := by first | (rw [hy107]; with_reducible exact H) | (have H2_ := (Option.bind_some _ _).symm.trans H; rw [hy107]; with_reducible exact H2_) | (have H2_ := (Option.bind_some _ _).symm.trans H; with_reducible exact H2_) | with_reducible exact H | (rw [hy107]; exact H) | exact H
          have Ny107 := Aside0.mk hy107
          clear hy107
          have H' := Aside0.mk H
          clear H
          have p105 : 0 ≤ (x28_1 : Int) := of_decide_eq_true (by first | (with_reducible assumption) | assumption)
          have q105 : x28_1 < (t101.length : Int) := of_decide_eq_true (by first | (with_reducible assumption) | assumption)
          obtain ⟨ad105, e105, hx105_0⟩ := Kd.at_int (Kd.R_reads' HO_26.out).2.2 x28_1 p105 q105
          cases e105
          replace p105 := eq_true p105
          replace q105 := eq_true q105
          have p106 : 0 ≤ (x28_1 : Int) := of_decide_eq_true (by first | (with_reducible assumption) | assumption)
          have q106 : x28_1 < (l1.length : Int) := of_decide_eq_true (by first | (with_reducible assumption) | assumption)
          obtain ⟨ad106, e106, hx106_0⟩ := Kd.at_int HR1.out x28_1 p106 q106
          cases e106
          replace hx106_0 := (HB.out.cell (World.block_lt_of_cell? w _ hx106_0)).trans hx106_0
          replace p106 := eq_true p106
          replace q106 := eq_true q106
          go_wp2_with (first | ((with_reducible refine gate_builtin (b := .append) (xs := #[.tmp 33, .tmp 40]) rfl ?_); at_builtin; refine Kd.R_append k123 (w0 := w) w.heap.size rfl (.tmp 33) (.tmp 40) 119 123 (.agg #[(.int .i64 0), (.int .u64 0)]) 16 rfl Try.underlying119 info123 rfl (by decide) (by omega) u8 x8_1 (⟨rd t101 x28_1, rd l1 x28_1⟩ : S123) [.int .i64 (rd t101 x28_1), .int .u64 (rd l1 x28_1)] (fun _ => True) (fun _ => False) rfl rfl ?aP (fun _ hk => hk.elim) ?aF ?aO ?aB ?aS ?aL ?_; (case aP => exact k123_mkM _ _ _ (⟨rd t101 x28_1, rd l1 x28_1⟩ : S123)); (case aB => exact (by repeat (first | (with_reducible first | exact HB.out | apply below_alloc | apply pw_below_drewN | apply below_drew1) | exact HB.out))); (case aF => exact (fun _ _ => trivial)); (case aO => exact (by (with_reducible repeat (first | apply Kd.R_alloc | apply Kd.R_drewN | apply Kd.R_drew)); exact HO_8.out)); (case aS => exact (below_size (by repeat (first | (with_reducible first | exact HB.out | apply below_alloc | apply pw_below_drewN | apply below_drew1) | exact HB.out)))); (case aL => have := LMc12.out; omega); intro v108 w13 ho hb hg hat; rw [← Ny107.out] at ho; have n0_ := Aside0.mk (Kd.R_over' (by (with_reducible repeat (first | apply Kd.R_alloc | apply Kd.R_drewN | apply Kd.R_drew)); exact HO_26.out) (Kd.R_typed (by (with_reducible repeat (first | apply Kd.R_alloc | apply Kd.R_drewN | apply Kd.R_drew)); exact HO_8.out)) (by decide) hg); have n1_ := Aside0.mk (hb); have n2_ := Aside0.mk (ho); clear HO_26; clear HB; clear HO_8; have HO_26 := n0_; have HB := n1_; have HO109 := n2_; clear n0_ n1_ n2_; clear ho hb hg hat))
          go_roundg k1
          case measure => have := HK1.out; omega
          case rel => exact ⟨(y107), (wrap64 (x28_1 + 1)), (by first | rfl | (simp; done) | (simp [*]; done)), H', ⟨by have := HK1.out; omega⟩, ⟨by (with_reducible repeat (first | apply Kd.R_alloc | apply Kd.R_drewN | apply Kd.R_drew)); exact HO109.out⟩, ⟨by (with_reducible repeat (first | apply Kd.R_alloc | apply Kd.R_drewN | apply Kd.R_drew)); exact HO_26.out⟩, ⟨by repeat (first | (with_reducible first | exact HB.out | apply below_alloc | apply pw_below_drewN | apply below_drew1) | exact HB.out)⟩⟩
         ·rw [if_neg c12] at H
          exact absurd H (by simp)
        ·rw [if_neg c11] at H
         exact absurd H (by simp)
       ·rw [if_neg c10] at H
        exact absurd H (by simp)
      ·rw [if_neg c9] at H
       exact absurd H (by simp)
     ·rw [if_neg c8] at H
      have c8b0 : decide (x28_1 < (t101.length : Int)) = false := decide_eq_false c8
      clear c8
      simp only [Option.some.injEq, Prod.mk.injEq] at H
      obtain ⟨rfl, rfl⟩ := H
      go_wp2
      go_ret2
      exact ⟨_, by first | rfl | (simp [errW_none, errW_some] <;> rfl) | (simp [*, errW_none, errW_some] <;> rfl), by (with_reducible repeat (first | apply Kd.R_alloc | apply Kd.R_drewN | apply Kd.R_drew)); exact HO_8.out, by repeat (first | (with_reducible first | exact HB.out | apply below_alloc | apply pw_below_drewN | apply below_drew1) | exact HB.out)⟩
  ·rw [if_neg c5] at H
   have c5b0 : ((t101.length : Int) == (l1.length : Int)) = false := beq_eq_false_iff_ne.mpr c5
   have c5b1 : ((t101.length : Int) != (l1.length : Int)) = true := bne_iff_ne.mpr c5
   have c5b2 : (t101.length == l1.length) = false := by first | simpa using c5 | (simp at c5 ⊢; omega)
   simp only [Option.some.injEq, Prod.mk.injEq] at H
   obtain ⟨rfl, rfl⟩ := H
   go_enter Try.func195, Try.ntmps195
   go_wp2_with (first | ((with_reducible refine gate_callee (f := 129) rfl ?_); refine goesL_ (some 13) rfl rfl Try.func129 (by kernel_rfl) rfl #[.slice A0 l0.length c0] rfl (by (try simp only [List.map_toArray, List.map_cons, List.map_nil]); first | done | rfl | (simp only [List.length_drop, List.length_take]; rfl)) ?_; (with_reducible refine (span_Places.calls k _ _ l0 t101 t102 _ ?side1 ?side2 A3.out).mono ?_); (case side1 => repeat (first | exact HR0.out | (with_reducible refine Kd.C_alloc ?_ _) | (with_reducible refine Kd.C_drewN ?_ _) | (with_reducible refine Kd.C_drew ?_))); (case side2 => exact HC0.out); rintro e w14 ⟨v103, rfl, ho0, hb⟩; refine ⟨_, rfl, ?_⟩; have n0_ := Aside0.mk (Kd.R_lower ho0 (below_size (by repeat (first | (with_reducible first | exact HB.out | apply below_alloc | apply pw_below_drewN | apply below_drew1) | exact HB.out)))); have n1_ := Aside0.mk (below_step (by repeat (first | (with_reducible first | exact HB.out | apply below_alloc | apply pw_below_drewN | apply below_drew1) | exact HB.out)) hb); clear HB; have HO104 := n0_; have HB := n1_; clear n0_ n1_; (try clear hb); (try clear hb2); (try clear hk); (try clear hi); (try clear ho0); clear A3; obtain ⟨Ao15, co15, eo15⟩ := Kd.R_slice HO104.out; subst eo15))
   go_ret2
   exact ⟨_, by first | rfl | (simp [errW_none, errW_some] <;> rfl) | (simp [*, errW_none, errW_some] <;> rfl), by first | exact Kd.R_nil _ _ _ _ _ | exact Kd.N_nil _ _ _ _ _ | exact Kd.V_nil _ _ _ _ _ | exact Kd.Q_nil _ _ _ _ _ | exact Kd.S_nil _ _ _ _ _, by repeat (first | (with_reducible first | exact HB.out | apply below_alloc | apply pw_below_drewN | apply below_drew1) | exact HB.out)⟩
 ·rw [if_neg c4] at H
  have c4b0 : (t102 == 0) = false := beq_eq_false_iff_ne.mpr c4
  have c4b1 : (t102 != 0) = true := bne_iff_ne.mpr c4
  simp only [Option.some.injEq, Prod.mk.injEq] at H
  obtain ⟨rfl, rfl⟩ := H
  go_enter Try.func195, Try.ntmps195
  go_wp2_with (first | ((with_reducible refine gate_callee (f := 129) rfl ?_); refine goesL_ (some 13) rfl rfl Try.func129 (by kernel_rfl) rfl #[.slice A0 l0.length c0] rfl (by (try simp only [List.map_toArray, List.map_cons, List.map_nil]); first | done | rfl | (simp only [List.length_drop, List.length_take]; rfl)) ?_; (with_reducible refine (span_Places.calls k _ _ l0 t101 t102 _ ?side1 ?side2 A3.out).mono ?_); (case side1 => repeat (first | exact HR0.out | (with_reducible refine Kd.C_alloc ?_ _) | (with_reducible refine Kd.C_drewN ?_ _) | (with_reducible refine Kd.C_drew ?_))); (case side2 => exact HC0.out); rintro e w16 ⟨v103, rfl, ho0, hb⟩; refine ⟨_, rfl, ?_⟩; have n0_ := Aside0.mk (Kd.R_lower ho0 (below_size (by repeat (first | (with_reducible first | exact HB.out | apply below_alloc | apply pw_below_drewN | apply below_drew1) | exact HB.out)))); have n1_ := Aside0.mk (below_step (by repeat (first | (with_reducible first | exact HB.out | apply below_alloc | apply pw_below_drewN | apply below_drew1) | exact HB.out)) hb); clear HB; have HO104 := n0_; have HB := n1_; clear n0_ n1_; (try clear hb); (try clear hb2); (try clear hk); (try clear hi); (try clear ho0); clear A3))
  go_ret2
  exact ⟨_, by first | rfl | (simp [errW_none, errW_some] <;> rfl) | (simp [*, errW_none, errW_some] <;> rfl), by first | exact Kd.R_nil _ _ _ _ _ | exact Kd.N_nil _ _ _ _ _ | exact Kd.V_nil _ _ _ _ _ | exact Kd.Q_nil _ _ _ _ _ | exact Kd.S_nil _ _ _ _ _, by repeat (first | (with_reducible first | exact HB.out | apply below_alloc | apply pw_below_drewN | apply below_drew1) | exact HB.out)⟩
end Go.Proofs.Ytacgeafjilipdaa.P
namespace Go.Proofs.Ytacgeafjilipdaa.P
open Go.RowKit Go.Shelf Go.Proofs.YtacgeafjilipdaaW.PrintWords Go.Proofs.YtacgeafjilipdaaW.PrintLast Go.Proofs.YtacgeafjilipdaaW.PrintMore
set_option linter.unusedVariables false
set_option linter.unusedSimpArgs false
abbrev Pu := S123
instance : DecidableEq Pu := fun a b => if h : a.f0 = b.f0 ∧ a.f1 = b.f1 then isTrue (by cases a; cases b; simp only at h; rw [h.1, h.2]) else isFalse (by rintro rfl; exact h ⟨rfl, rfl⟩)
theorem rdPu_at {l : List Pu} {i : Nat} (h : i < l.length) : rd_T123 l (i : Int) = l[i] := by unfold rd_T123; simp [List.getD, h]
def wfPus (l : List Pu) : Prop := ∀ s ∈ l, i64 s.f0 ∧ u64 s.f1
def zipResU (l : List Sp) (v : List Int) : List Pu × Int := if spCheck l = 0 then (if (plN 0 l).length = v.length then (List.zipWith (fun p x => (⟨p, x⟩ : Pu)) (plN 0 l) v, 0) else ([], 10)) else ([], spCheck l)
theorem zipU_loop (ps v : List Int) (hl : ps.length = v.length) (hm : ps.length < 8796093022208) : ∀ (d k i : Nat), ps.length - i = d → d < k → i ≤ ps.length →
    pairs_Zip_uint64.l0 k v (List.zipWith (fun p x => (⟨p, x⟩ : Pu)) (ps.take i) (v.take i)) ps (ps.length : Int) (i : Int) = some (List.zipWith (fun p x => (⟨p, x⟩ : Pu)) ps v, 0) := by
  intro d
  induction d with
  | zero =>
    intro k i hd hk hi
    obtain ⟨k, rfl⟩ : ∃ m, k = m + 1 := ⟨k - 1, by omega⟩
    simp only [pairs_Zip_uint64.l0]
    rw [if_neg (by omega), List.take_of_length_le (by omega), List.take_of_length_le (by omega)]
  | succ d ih =>
    intro k i hd hk hi
    obtain ⟨k, rfl⟩ : ∃ m, k = m + 1 := ⟨k - 1, by omega⟩
    have hlt : i < ps.length := by omega
    have hlv : i < v.length := by omega
    have hl1 : (List.zipWith (fun p x => (⟨p, x⟩ : Pu)) (ps.take i) (v.take i)).length = i := by simp; omega
    simp only [pairs_Zip_uint64.l0]
    rw [if_pos (by omega), if_pos (by omega), if_pos (by omega), if_pos (by omega), hl1, rd_at hlt, rd_at hlv, if_pos (by omega), wrap_succ (by omega), ← ih k (i + 1) (by omega) (by omega) (by omega), take_at hlt, take_at hlv, List.zipWith_append (by simp; omega)]
    rfl
theorem zipU_eq (l : List Sp) (v : List Int) (hw : wfSps l) (k : Nat) (hk : 4100 < k) : pairs_Zip_uint64.f k l v = some (zipResU l v) := by
  unfold pairs_Zip_uint64.f zipResU
  rw [places_eq l hw k (by omega)]
  simp only [Option.bind_some, placesRes]
  by_cases h : spCheck l = 0
  · have hl := places_len h
    rw [if_pos h, if_pos h]
    simp only [if_true]
    by_cases h1 : (plN 0 l).length = v.length
    · rw [if_pos (by omega), if_pos h1]
      exact zipU_loop (plN 0 l) v h1 (by omega) (plN 0 l).length k 0 (by omega) (by omega) (by omega)
    · rw [if_neg (by omega), if_neg h1]
  · rw [if_neg h, if_neg h]
    simp only
    rw [if_neg h]
end Go.Proofs.Ytacgeafjilipdaa.P
namespace Go.Proofs.Ytacgeafjilipdaa.P
open Go.RowKit Go.Shelf Go.Proofs.YtacgeafjilipdaaW.PrintWords Go.Proofs.YtacgeafjilipdaaW.PrintLast Go.Proofs.YtacgeafjilipdaaW.PrintMore
set_option linter.unusedVariables false
set_option linter.unusedSimpArgs false
def PredN_uint64 (g : Nat) (cap : Array Value) (p : Int → Bool) (w : World) : Prop :=
  ∀ (W : World) (x : Int), Below w.heap.size w W → Calls Try.prog g (#[.int .u64 x] ++ cap) W fun e w' => e = .returned (.bool (p x)) ∧ Below W.heap.size W w'
set_option maxHeartbeats 2000000 in
theorem indexFunc_num_uint64 (g : Nat) (cap : Array Value) (p : Int → Bool) (A : Option Addr) (c : Nat) (l : List Int) (w : World)
    (hr : Kd.C (Kd.int .u64) w A l.length l) (hc : l.length ≤ c) (hm : l.length ≤ 9223372036854775807) (hp : PredN_uint64 g cap p w) (eg : ∀ args w, (callFunc g args).run Try.prog w = .ok (.enter g args) w) :
    Calls Try.prog 200 #[.slice A l.length c, .func (.func g) #[] cap] w fun e w' => e = .returned (.int .i64 (idxP p l)) ∧ Below w.heap.size w w' := by
  have HR := Aside0.mk hr
  have HP := Aside0.mk hp
  clear hr hp
  go_enter Try.func200, Try.ntmps200
  go_wp2
  go_loopg [5, 8] l.length (fun gg _ s8 wr => ∃ kk : Nat, kk ≤ l.length ∧ l.length - kk ≤ gg ∧ s8 = .int .i64 kk ∧ Aside0 (Below w.heap.size w wr) ∧ Aside0 (∀ j (hj : j < kk) (hj2 : j < l.length), p l[j] = false))
  case atStart => exact ⟨0, Nat.zero_le _, by omega, rfl, ⟨Below.refl _ w⟩, ⟨fun j hj => absurd hj (Nat.not_lt_zero _)⟩⟩
  case round =>
    obtain ⟨kk, hkk, hg, rfl, HB, HA⟩ := hrel
    by_cases hlt : kk < l.length
    · have hlti : (kk : Int) < (l.length : Int) := by omega
      obtain ⟨ad, e1, hx0⟩ := Kd.at_int HR.out kk (by omega) (by omega)
      cases e1
      replace hx0 := (HB.out.cell (World.block_lt_of_cell? w _ hx0)).trans hx0
      have hrd : rd l (kk : Int) = l[kk] := by unfold rd; simp [List.getD, hlt]
      rw [hrd, Int.toNat_natCast] at hx0
      have hcall := HP.out wr l[kk] HB.out
      generalize hy : l[kk] = y at hx0 hcall
      have HY := Aside0.mk hy
      clear hy hrd
      cases hq : p y with
      | true =>
        rw [hq] at hcall
        have HQ := Aside0.mk hq
        clear hq
        have HC := Aside0.mk hcall
        clear hcall
        go_wp2_with (go_at_fn g; refine HC.out.mono ?_; rintro e w' ⟨rfl, hb'⟩)
        go_ret
        refine ⟨?_, HB.out.trans (hb'.mono HB.out.size)⟩
        rw [idxP_hit p l kk hlt (by rw [HY.out]; exact HQ.out) (fun j hj => HA.out j hj (by omega))]; rfl
      | false =>
        rw [hq] at hcall
        have HQ := Aside0.mk hq
        clear hq
        have HC := Aside0.mk hcall
        clear hcall
        go_wp2_with (go_at_fn g; refine HC.out.mono ?_; rintro e w' ⟨rfl, hb'⟩)
        go_roundg (l.length - (kk + 1))
        case measure => omega
        case rel =>
          refine ⟨kk + 1, by omega, by omega, by go_num, ⟨HB.out.trans (hb'.mono HB.out.size)⟩, ⟨fun j hj hj2 => ?_⟩⟩
          by_cases e : j = kk
          · subst e
            rw [HY.out]; exact HQ.out
          · exact HA.out j (by omega) hj2
    · have hlti : ¬ (kk : Int) < (l.length : Int) := by omega
      have hk : kk = l.length := by omega
      go_wp2
      go_ret
      refine ⟨?_, HB.out⟩
      rw [idxP_miss p l (fun j hj => HA.out j (by omega) hj)]; rfl
theorem idxP_any_uint64 (p : Int → Bool) (l : List Int) : decide (idxP p l ≥ 0) = l.any p := by
  rcases find_idx p l with ⟨h1, h2⟩ | ⟨i, h, h1, h2⟩
  · rw [h1, Bool.eq_iff_iff, decide_eq_true_iff]
    constructor
    · intro h; omega
    · intro h
      obtain ⟨x, hx, hp⟩ := List.any_eq_true.1 h
      rw [List.find?_eq_none] at h2
      exact absurd hp (h2 x hx)
  · rw [h1, Bool.eq_iff_iff, decide_eq_true_iff]
    constructor
    · intro _; exact List.any_eq_true.2 ⟨_, List.getElem_mem h, by have := List.find?_some h2; exact this⟩
    · intro _; omega
set_option maxHeartbeats 2000000 in
theorem containsFunc_num_uint64 (g : Nat) (cap : Array Value) (p : Int → Bool) (A : Option Addr) (c : Nat) (l : List Int) (w : World)
    (hr : Kd.C (Kd.int .u64) w A l.length l) (hc : l.length ≤ c) (hm : l.length ≤ 9223372036854775807) (hp : PredN_uint64 g cap p w) (eg : ∀ args w, (callFunc g args).run Try.prog w = .ok (.enter g args) w) :
    Calls Try.prog 194 #[.slice A l.length c, .func (.func g) #[] cap] w fun e w' => e = .returned (.bool (l.any p)) ∧ Below w.heap.size w w' := by
  have H := Aside0.mk (indexFunc_num_uint64 g cap p A c l w hr hc hm hp eg)
  have HE := Aside0.mk (idxP_any_uint64 p l)
  clear hr hp
  generalize idxP p l = ix at H HE
  go_enter Try.func194, Try.ntmps194
  go_wp2_with (go_at_call 200; refine H.out.mono ?_; rintro e w' ⟨rfl, hb'⟩)
  go_ret
  exact ⟨by rw [← HE.out]; rfl, hb'⟩
end Go.Proofs.Ytacgeafjilipdaa.P
namespace Go.Proofs.Ytacgeafjilipdaa.P
open Go.RowKit Go.Proofs.YtacgeafjilipdaaW.PrintWords Go.Proofs.YtacgeafjilipdaaW.PrintLast Go.Proofs.YtacgeafjilipdaaW.PrintMore
set_option linter.unusedVariables false
set_option linter.unusedSimpArgs false
def sumsFrom : Int → List Int → Option (List Int)
  | _, [] => some []
  | a, d :: r => if i64 (a + d) then (sumsFrom (a + d) r).map (fun o => (a + d) :: o) else none
def diffsFrom : Int → List Int → Option (List Int)
  | _, [] => some []
  | a, v :: r => if i64 (v - a) then (diffsFrom v r).map (fun o => (v - a) :: o) else none
theorem add_flag {a d : Int} (ha : i64 a) (hd : i64 d) : ((decide ((wrap64 (a + d)) > a)) == (decide (d > 0))) = decide (i64 (a + d)) := by
  unfold i64 at *
  by_cases h : -9223372036854775808 ≤ a + d ∧ a + d ≤ 9223372036854775807
  · rw [decide_eq_true h, wrap_id h.1 h.2]
    by_cases hp : d > 0
    · have : a + d > a := by omega
      simp [hp, this]
    · have : ¬ a + d > a := by omega
      simp [hp, this]
  · rw [decide_eq_false h]
    by_cases hp : d > 0
    · have : ¬ wrap64 (a + d) > a := by unfold wrap64; omega
      simp [hp, this]
    · have : wrap64 (a + d) > a := by unfold wrap64; omega
      simp [hp, this]
theorem less_flag {a d : Int} (ha : i64 a) (hd : i64 d) : ((decide ((wrap64 (a - d)) < a)) == (decide (d > 0))) = decide (i64 (a - d)) := by
  unfold i64 at *
  by_cases h : -9223372036854775808 ≤ a - d ∧ a - d ≤ 9223372036854775807
  · rw [decide_eq_true h, wrap_id h.1 h.2]
    by_cases hp : d > 0
    · have : a - d < a := by omega
      simp [hp, this]
    · have : ¬ a - d < a := by omega
      simp [hp, this]
  · rw [decide_eq_false h]
    by_cases hp : d > 0
    · have : ¬ wrap64 (a - d) < a := by unfold wrap64; omega
      simp [hp, this]
    · have : wrap64 (a - d) < a := by unfold wrap64; omega
      simp [hp, this]
theorem absolute_loop (l : List Int) (hw : ∀ x ∈ l, i64 x) (hl : l.length < 17592186044416) : ∀ (d k i : Nat) (acc : List Int) (a : Int), l.length - i = d → d < k → i ≤ l.length → acc.length = i → i64 a →
    pairs_Absolute.l0 k acc a l (l.length : Int) (i : Int) = some (match sumsFrom a (l.drop i) with | some o => (acc ++ o, 0) | none => ([], 28)) := by
  intro d
  induction d with
  | zero =>
    intro k i acc a hd hk hi ha hwa
    obtain ⟨k, rfl⟩ : ∃ m, k = m + 1 := ⟨k - 1, by omega⟩
    simp only [pairs_Absolute.l0]
    rw [if_neg (by omega), drop_end (by omega)]
    simp [sumsFrom]
  | succ d ih =>
    intro k i acc a hd hk hi ha hwa
    obtain ⟨k, rfl⟩ : ∃ m, k = m + 1 := ⟨k - 1, by omega⟩
    have hlt : i < l.length := by omega
    have hwd : i64 l[i] := hw _ (List.getElem_mem hlt)
    simp only [pairs_Absolute.l0]
    rw [if_pos (by omega), if_pos (by omega), if_pos (by omega), rd_at hlt, drop_at hlt]
    simp only [pairs_add.f, Option.bind_some]
    rw [add_flag hwa hwd]
    by_cases hs : i64 (a + l[i])
    · rw [if_pos (by simpa using hs), if_pos (by omega), wrap_of_i64 hs, wrap_succ (by omega), ih k (i + 1) _ _ (by omega) (by omega) (by omega) (by simp [ha]) hs]
      simp only [sumsFrom, if_pos hs]
      cases sumsFrom (a + l[i]) (l.drop (i + 1)) <;> simp
    · rw [if_neg (by simpa using hs)]
      simp only [sumsFrom, if_neg hs]
theorem absolute_eq (l : List Int) (hw : ∀ x ∈ l, i64 x) (hl : l.length < 17592186044416) (k : Nat) (hk : l.length < k) :
    pairs_Absolute.f k l = some (match sumsFrom 0 l with | some o => (o, 0) | none => ([], 28)) := by
  unfold pairs_Absolute.f
  have h := absolute_loop l hw hl l.length k 0 [] 0 (by omega) hk (by omega) rfl (by unfold i64; omega)
  rw [List.drop_zero] at h
  exact h
theorem deltas_loop (l : List Int) (hw : ∀ x ∈ l, i64 x) (hl : l.length < 17592186044416) : ∀ (d k i : Nat) (acc : List Int) (a : Int), l.length - i = d → d < k → i ≤ l.length → acc.length = i → i64 a →
    pairs_Deltas.l0 k acc a l (l.length : Int) (i : Int) = some (match diffsFrom a (l.drop i) with | some o => (acc ++ o, 0) | none => ([], 28)) := by
  intro d
  induction d with
  | zero =>
    intro k i acc a hd hk hi ha hwa
    obtain ⟨k, rfl⟩ : ∃ m, k = m + 1 := ⟨k - 1, by omega⟩
    simp only [pairs_Deltas.l0]
    rw [if_neg (by omega), drop_end (by omega)]
    simp [diffsFrom]
  | succ d ih =>
    intro k i acc a hd hk hi ha hwa
    obtain ⟨k, rfl⟩ : ∃ m, k = m + 1 := ⟨k - 1, by omega⟩
    have hlt : i < l.length := by omega
    have hwd : i64 l[i] := hw _ (List.getElem_mem hlt)
    simp only [pairs_Deltas.l0]
    rw [if_pos (by omega), if_pos (by omega), if_pos (by omega), rd_at hlt, drop_at hlt]
    simp only [pairs_less.f, Option.bind_some]
    rw [less_flag hwd hwa]
    by_cases hs : i64 (l[i] - a)
    · rw [if_pos (by simpa using hs), if_pos (by omega), wrap_of_i64 hs, wrap_succ (by omega), ih k (i + 1) _ _ (by omega) (by omega) (by omega) (by simp [ha]) hwd]
      simp only [diffsFrom, if_pos hs]
      cases diffsFrom l[i] (l.drop (i + 1)) <;> simp
    · rw [if_neg (by simpa using hs)]
      simp only [diffsFrom, if_neg hs]
theorem deltas_eq (l : List Int) (hw : ∀ x ∈ l, i64 x) (hl : l.length < 17592186044416) (k : Nat) (hk : l.length < k) :
    pairs_Deltas.f k l = some (match diffsFrom 0 l with | some o => (o, 0) | none => ([], 28)) := by
  unfold pairs_Deltas.f
  have h := deltas_loop l hw hl l.length k 0 [] 0 (by omega) hk (by omega) rfl (by unfold i64; omega)
  rw [List.drop_zero] at h
  exact h
theorem sumsFrom_length : ∀ (l : List Int) (a : Int) (o : List Int), sumsFrom a l = some o → o.length = l.length
  | [], a, o, h => by simp [sumsFrom] at h; subst h; rfl
  | d :: r, a, o, h => by
    simp only [sumsFrom] at h
    split at h
    · cases h2 : sumsFrom (a + d) r with
      | none => rw [h2] at h; cases h
      | some o2 => rw [h2] at h; simp at h; subst h; simp [sumsFrom_length r _ _ h2]
    · cases h
theorem sumsFrom_i64 : ∀ (l : List Int) (a : Int) (o : List Int), sumsFrom a l = some o → ∀ x ∈ o, i64 x
  | [], a, o, h => by simp [sumsFrom] at h; subst h; simp
  | d :: r, a, o, h => by
    simp only [sumsFrom] at h
    split at h
    · rename_i hs
      cases h2 : sumsFrom (a + d) r with
      | none => rw [h2] at h; cases h
      | some o2 =>
        rw [h2] at h; simp at h; subst h
        intro x hx
        rcases List.mem_cons.1 hx with rfl | hx
        · exact hs
        · exact sumsFrom_i64 r _ _ h2 x hx
    · cases h
end Go.Proofs.Ytacgeafjilipdaa.P
namespace Go.Proofs.Ytacgeafjilipdaa.P
open Go.RowKit Go.Shelf Go.Proofs.YtacgeafjilipdaaW.PrintWords Go.Proofs.YtacgeafjilipdaaW.PrintLast Go.Proofs.YtacgeafjilipdaaW.PrintMore
set_option linter.unusedVariables false
set_option linter.unusedSimpArgs false
def PredN_int64 (g : Nat) (cap : Array Value) (p : Int → Bool) (w : World) : Prop :=
  ∀ (W : World) (x : Int), Below w.heap.size w W → Calls Try.prog g (#[.int .i64 x] ++ cap) W fun e w' => e = .returned (.bool (p x)) ∧ Below W.heap.size W w'
set_option maxHeartbeats 2000000 in
theorem indexFunc_num_int64 (g : Nat) (cap : Array Value) (p : Int → Bool) (A : Option Addr) (c : Nat) (l : List Int) (w : World)
    (hr : Kd.C (Kd.int .i64) w A l.length l) (hc : l.length ≤ c) (hm : l.length ≤ 9223372036854775807) (hp : PredN_int64 g cap p w) (eg : ∀ args w, (callFunc g args).run Try.prog w = .ok (.enter g args) w) :
    Calls Try.prog 199 #[.slice A l.length c, .func (.func g) #[] cap] w fun e w' => e = .returned (.int .i64 (idxP p l)) ∧ Below w.heap.size w w' := by
  have HR := Aside0.mk hr
  have HP := Aside0.mk hp
  clear hr hp
  go_enter Try.func199, Try.ntmps199
  go_wp2
  go_loopg [5, 8] l.length (fun gg _ s8 wr => ∃ kk : Nat, kk ≤ l.length ∧ l.length - kk ≤ gg ∧ s8 = .int .i64 kk ∧ Aside0 (Below w.heap.size w wr) ∧ Aside0 (∀ j (hj : j < kk) (hj2 : j < l.length), p l[j] = false))
  case atStart => exact ⟨0, Nat.zero_le _, by omega, rfl, ⟨Below.refl _ w⟩, ⟨fun j hj => absurd hj (Nat.not_lt_zero _)⟩⟩
  case round =>
    obtain ⟨kk, hkk, hg, rfl, HB, HA⟩ := hrel
    by_cases hlt : kk < l.length
    · have hlti : (kk : Int) < (l.length : Int) := by omega
      obtain ⟨ad, e1, hx0⟩ := Kd.at_int HR.out kk (by omega) (by omega)
      cases e1
      replace hx0 := (HB.out.cell (World.block_lt_of_cell? w _ hx0)).trans hx0
      have hrd : rd l (kk : Int) = l[kk] := by unfold rd; simp [List.getD, hlt]
      rw [hrd, Int.toNat_natCast] at hx0
      have hcall := HP.out wr l[kk] HB.out
      generalize hy : l[kk] = y at hx0 hcall
      have HY := Aside0.mk hy
      clear hy hrd
      cases hq : p y with
      | true =>
        rw [hq] at hcall
        have HQ := Aside0.mk hq
        clear hq
        have HC := Aside0.mk hcall
        clear hcall
        go_wp2_with (go_at_fn g; refine HC.out.mono ?_; rintro e w' ⟨rfl, hb'⟩)
        go_ret
        refine ⟨?_, HB.out.trans (hb'.mono HB.out.size)⟩
        rw [idxP_hit p l kk hlt (by rw [HY.out]; exact HQ.out) (fun j hj => HA.out j hj (by omega))]; rfl
      | false =>
        rw [hq] at hcall
        have HQ := Aside0.mk hq
        clear hq
        have HC := Aside0.mk hcall
        clear hcall
        go_wp2_with (go_at_fn g; refine HC.out.mono ?_; rintro e w' ⟨rfl, hb'⟩)
        go_roundg (l.length - (kk + 1))
        case measure => omega
        case rel =>
          refine ⟨kk + 1, by omega, by omega, by go_num, ⟨HB.out.trans (hb'.mono HB.out.size)⟩, ⟨fun j hj hj2 => ?_⟩⟩
          by_cases e : j = kk
          · subst e
            rw [HY.out]; exact HQ.out
          · exact HA.out j (by omega) hj2
    · have hlti : ¬ (kk : Int) < (l.length : Int) := by omega
      have hk : kk = l.length := by omega
      go_wp2
      go_ret
      refine ⟨?_, HB.out⟩
      rw [idxP_miss p l (fun j hj => HA.out j (by omega) hj)]; rfl
theorem idxP_any_int64 (p : Int → Bool) (l : List Int) : decide (idxP p l ≥ 0) = l.any p := by
  rcases find_idx p l with ⟨h1, h2⟩ | ⟨i, h, h1, h2⟩
  · rw [h1, Bool.eq_iff_iff, decide_eq_true_iff]
    constructor
    · intro h; omega
    · intro h
      obtain ⟨x, hx, hp⟩ := List.any_eq_true.1 h
      rw [List.find?_eq_none] at h2
      exact absurd hp (h2 x hx)
  · rw [h1, Bool.eq_iff_iff, decide_eq_true_iff]
    constructor
    · intro _; exact List.any_eq_true.2 ⟨_, List.getElem_mem h, by have := List.find?_some h2; exact this⟩
    · intro _; omega
set_option maxHeartbeats 2000000 in
theorem containsFunc_num_int64 (g : Nat) (cap : Array Value) (p : Int → Bool) (A : Option Addr) (c : Nat) (l : List Int) (w : World)
    (hr : Kd.C (Kd.int .i64) w A l.length l) (hc : l.length ≤ c) (hm : l.length ≤ 9223372036854775807) (hp : PredN_int64 g cap p w) (eg : ∀ args w, (callFunc g args).run Try.prog w = .ok (.enter g args) w) :
    Calls Try.prog 191 #[.slice A l.length c, .func (.func g) #[] cap] w fun e w' => e = .returned (.bool (l.any p)) ∧ Below w.heap.size w w' := by
  have H := Aside0.mk (indexFunc_num_int64 g cap p A c l w hr hc hm hp eg)
  have HE := Aside0.mk (idxP_any_int64 p l)
  clear hr hp
  generalize idxP p l = ix at H HE
  go_enter Try.func191, Try.ntmps191
  go_wp2_with (go_at_call 199; refine H.out.mono ?_; rintro e w' ⟨rfl, hb'⟩)
  go_ret
  exact ⟨by rw [← HE.out]; rfl, hb'⟩
end Go.Proofs.Ytacgeafjilipdaa.P
namespace Go.Proofs.Ytacgeafjilipdaa.P
open Go.RowKit Go.Shelf Go.Proofs.YtacgeafjilipdaaW.PrintWords Go.Proofs.YtacgeafjilipdaaW.PrintLast Go.Proofs.YtacgeafjilipdaaW.PrintMore
set_option linter.unusedVariables false
set_option linter.unusedSimpArgs false
theorem count_loop (l : List Sp) (hm : l.length ≤ 1024) (hp : ∀ s ∈ l, 0 ≤ s.f1 ∧ s.f1 ≤ 4096) : ∀ (d k i : Nat), l.length - i = d → d < k → i ≤ l.length → 0 ≤ cntN (l.take i) → cntN (l.take i) ≤ 4096 * i →
    span_Count.l0 k (cntN (l.take i)) l (l.length : Int) (i : Int) = some (cntN l) := by
  intro d
  induction d with
  | zero =>
    intro k i hd hk hi h0 h1
    obtain ⟨k, rfl⟩ : ∃ m, k = m + 1 := ⟨k - 1, by omega⟩
    rw [span_Count.l0, if_neg (by omega), List.take_of_length_le (by omega)]
  | succ d ih =>
    intro k i hd hk hi h0 h1
    obtain ⟨k, rfl⟩ : ∃ m, k = m + 1 := ⟨k - 1, by omega⟩
    have hlt : i < l.length := by omega
    have hs := hp _ (List.getElem_mem hlt)
    have e : cntN (l.take (i + 1)) = cntN (l.take i) + l[i].f1 := by rw [take_at hlt, cntN_snoc]
    rw [span_Count.l0, if_pos (by omega), if_pos (by omega), if_pos (by omega), rdSp_at hlt, wrap_succ (by omega), wrap_id (by omega) (by omega), ← e]
    exact ih k (i + 1) (by omega) (by omega) (by omega) (by omega) (by omega)
theorem count_eq (l : List Sp) (hw : wfSps l) (k : Nat) (hk : 2048 < k) : span_Count.f k l = some (if spCheck l = 0 then cntN l else 0) := by
  unfold span_Count.f
  rw [check_eq l hw k hk, Option.bind_some]
  by_cases h : spCheck l = 0
  · have h0 := spCheck_zero h
    rw [if_pos h, if_pos h]
    exact count_loop l h0.1 (fun s hs => spRight_pos l _ _ _ h0.2 s hs) l.length k 0 (by omega) (by omega) (by omega) (by simp [cntN]) (by simp [cntN])
  · rw [if_neg h, if_neg h]
def sideRes (l : List Sp) (d : List Int) : List Pr × Int :=
  if spCheck l = 0 then (if cntN l = d.length then (match sumsFrom 0 d with | none => ([], 28) | some c => if c.any (fun x => decide (x < 0)) = true then ([], 22) else (List.zipWith (fun p x => (⟨p, x⟩ : Pr)) (plN 0 l) c, 0)) else ([], 23)) else ([], spCheck l)
instance (l : List Sp) : Decidable (wfSps l) := by unfold wfSps wfSp; exact inferInstance
def i64s (l : List Int) : Prop := ∀ x ∈ l, i64 x
instance (l : List Int) : Decidable (i64s l) := by unfold i64s; exact inferInstance
def hist_side.f (l0 : List Sp) (l1 : List Int) : Option (List Pr × Int) := if wfSps l0 ∧ i64s l1 ∧ l1.length < 4398046511104 then some (sideRes l0 l1) else none
set_option maxRecDepth 100000 in
theorem neg_any (W : World) (x : Int) :
    Calls Try.prog 192 (#[.int .i64 x] ++ #[]) W fun e w' => e = .returned (.bool (decide (x < 0))) ∧ Below W.heap.size W w' := by
  show Calls Try.prog 192 #[.int .i64 x] W _
  go_enter Try.func192, Try.ntmps192
  go_wp2
  go_ret
  exact ⟨rfl, Below.refl _ _⟩
set_option maxHeartbeats 8000000 in
set_option maxRecDepth 100000 in
theorem hist_side.calls (A0 : Option Addr) (c0 : Nat) (l0 : List Sp) (A1 : Option Addr) (c1 : Nat) (l1 : List Int) (r1 : List Pr) (r2 : Int) (w : World) (hr0 : Kd.C k144 w A0 l0.length l0) (hc0 : l0.length ≤ c0) (hr1 : Kd.C (Kd.int .i64) w A1 l1.length l1) (hc1 : l1.length ≤ c1) (h : hist_side.f l0 l1 = some (r1, r2)) :
    Calls Try.prog 179 #[.slice A0 l0.length c0, .slice A1 l1.length c1] w fun e w' => ∃ v0_ : Value, e = .returned (.tuple #[v0_, .int .i64 r2]) ∧ Kd.R k26 26 w' w.heap.size (fun _ => True) v0_ r1 ∧ Below w.heap.size w w' := by
  obtain ⟨⟨hw, hi, hm⟩, h2⟩ := of_ite_some h
  clear h
  obtain ⟨K, hK⟩ : ∃ K, K = l1.length + 5200 := ⟨_, rfl⟩
  have HRA := Aside0.mk (And.intro hr0 hr1)
  have HCA := Aside0.mk (And.intro hc0 hc1)
  have HCk := Aside0.mk (check_eq l0 hw K (by omega))
  have HCt := Aside0.mk (count_eq l0 hw K (by omega))
  have HAb := Aside0.mk (absolute_eq l1 hi (by omega) K (by omega))
  have HW := Aside0.mk hw
  have HM := Aside0.mk (And.intro hm hK)
  have H := Aside0.mk h2
  clear hr0 hr1 hc0 hc1 hw hi h2 hm hK
  unfold sideRes at H
  by_cases he : spCheck l0 = 0
  rotate_left
  · have H := H.out
    rw [if_neg he] at H
    injection H with h4 h5
    subst h4; subst h5
    have he1 : (spCheck l0 == 0) = false := beq_eq_false_iff_ne.2 he
    have he2 : (spCheck l0 != 0) = true := bne_iff_ne.2 he
    clear he
    generalize spCheck l0 = e0 at *
    go_enter Try.func179, Try.ntmps179
    go_wp2_with (go_at_call 130; (with_reducible refine (span_Check.calls K _ _ l0 e0 _ HRA.out.1 HCA.out.1 HCk.out).mono ?_); rintro e w1 ⟨rfl, hb⟩; have HB := Aside0.mk hb; clear hb)
    go_ret2
    exact ⟨_, rfl, Kd.R_nil _ _ _ _ _, HB.out⟩
  · rw [if_pos he] at H
    rw [he] at HCk
    rw [if_pos he] at HCt
    have HP := Aside0.mk he
    clear he
    generalize hn : cntN l0 = n at H HCt
    have HN := Aside0.mk hn
    clear hn
    by_cases hc : n = (l1.length : Int)
    rotate_left
    · have H := H.out
      rw [if_neg hc] at H
      injection H with h4 h5
      subst h4; subst h5
      have hc1 : (n == (l1.length : Int)) = false := beq_eq_false_iff_ne.2 hc
      have hc2 : (n != (l1.length : Int)) = true := bne_iff_ne.2 hc
      clear hc
      go_enter Try.func179, Try.ntmps179
      go_wp2_with (first | (go_at_call 130; (with_reducible refine (span_Check.calls K _ _ l0 0 _ HRA.out.1 HCA.out.1 HCk.out).mono ?_); rintro e w1 ⟨rfl, hb⟩; have HB := Aside0.mk hb; clear hb) | (go_at_call 187; (with_reducible refine (span_Count.calls K _ _ l0 n _ (Kd.C_below HRA.out.1 HB.out) HCA.out.1 HCt.out).mono ?_); rintro e w2 ⟨rfl, hb⟩; have HB2 := Aside0.mk (below_then HB.out HB.out.size hb); clear hb))
      go_ret2
      exact ⟨_, rfl, Kd.R_nil _ _ _ _ _, HB2.out⟩
    · rw [if_pos hc] at H
      have hc1 : (n == (l1.length : Int)) = true := beq_iff_eq.2 hc
      have hc2 : (n != (l1.length : Int)) = false := by rw [bne, hc1]; rfl
      have HNL := Aside0.mk hc
      clear hc
      have HSL := Aside0.mk (sumsFrom_length l1 0)
      cases hs : sumsFrom 0 l1 with
      | none =>
        rw [hs] at H HAb
        have H := H.out
        injection H with h4 h5
        subst h4; subst h5
        clear hs
        obtain ⟨cs, hcs⟩ : ∃ cs : List Int, cs = [] := ⟨_, rfl⟩
        obtain ⟨e3, he3⟩ : ∃ e : Int, e = 28 := ⟨_, rfl⟩
        replace HAb := Aside0.mk (show pairs_Absolute.f K l1 = some (cs, e3) by rw [hcs, he3]; exact HAb.out)
        subst he3
        clear hcs
        go_enter Try.func179, Try.ntmps179
        go_wp2_with (first | (go_at_call 130; (with_reducible refine (span_Check.calls K _ _ l0 0 _ HRA.out.1 HCA.out.1 HCk.out).mono ?_); rintro e w1 ⟨rfl, hb⟩; have HB := Aside0.mk hb; clear hb) | (go_at_call 187; (with_reducible refine (span_Count.calls K _ _ l0 n _ (Kd.C_below HRA.out.1 HB.out) HCA.out.1 HCt.out).mono ?_); rintro e w2 ⟨rfl, hb⟩; have HB2 := Aside0.mk (below_then HB.out HB.out.size hb); clear hb) | (go_at_call 48; (with_reducible refine (pairs_Absolute.calls K _ _ l1 cs _ _ (Kd.C_below HRA.out.2 HB2.out) HCA.out.2 HAb.out).mono ?_); rintro e w3 ⟨v3, rfl, ho3, hb⟩; have HB3 := Aside0.mk (below_then HB2.out HB2.out.size hb); obtain ⟨A3, c3, rfl, hc3, hC3⟩ := Kd.R_reads ho3; have HC3 := Aside0.mk (And.intro hc3 hC3); clear ho3 hC3 hc3 hb))
        go_ret2
        exact ⟨_, rfl, Kd.R_nil _ _ _ _ _, HB3.out⟩
      | some cs =>
        rw [hs] at H HAb
        have hlen := HSL.out cs hs
        have HL := Aside0.mk hlen
        have HL3 := Aside0.mk (show cs.length ≤ 9223372036854775807 by have := HM.out.1; omega)
        clear hs hlen
        obtain ⟨e3, he3⟩ : ∃ e : Int, e = 0 := ⟨_, rfl⟩
        replace HAb := Aside0.mk (show pairs_Absolute.f K l1 = some (cs, e3) by rw [he3]; exact HAb.out)
        subst he3
        cases hany : cs.any (fun x => decide (x < 0)) with
        | true =>
          have H := H.out
          simp only [hany, if_true] at H
          injection H with h4 h5
          subst h4; subst h5
          go_enter Try.func179, Try.ntmps179
          go_wp2_with (first | (go_at_call 130; (with_reducible refine (span_Check.calls K _ _ l0 0 _ HRA.out.1 HCA.out.1 HCk.out).mono ?_); rintro e w1 ⟨rfl, hb⟩; have HB := Aside0.mk hb; clear hb) | (go_at_call 187; (with_reducible refine (span_Count.calls K _ _ l0 n _ (Kd.C_below HRA.out.1 HB.out) HCA.out.1 HCt.out).mono ?_); rintro e w2 ⟨rfl, hb⟩; have HB2 := Aside0.mk (below_then HB.out HB.out.size hb); clear hb) | (go_at_call 48; (with_reducible refine (pairs_Absolute.calls K _ _ l1 cs _ _ (Kd.C_below HRA.out.2 HB2.out) HCA.out.2 HAb.out).mono ?_); rintro e w3 ⟨v3, rfl, ho3, hb⟩; have HB3 := Aside0.mk (below_then HB2.out HB2.out.size hb); obtain ⟨A3, c3, rfl, hc3, hC3⟩ := Kd.R_reads ho3; have HC3 := Aside0.mk (And.intro hc3 hC3); clear ho3 hC3 hc3 hb) | (go_at_call 191; (refine (containsFunc_num_int64 192 #[] (fun x => decide (x < 0)) _ _ cs _ HC3.out.2 HC3.out.1 HL3.out (fun W x _ => neg_any W x) (enters_of Try.func192 (by kernel_rfl) rfl)).mono ?_); rintro e w4 ⟨rfl, hb⟩; rw [hany]; have HB4 := Aside0.mk (below_then HB3.out HB3.out.size hb); have HC4 := Aside0.mk (Kd.C_below HC3.out.2 hb); clear hb))
          go_ret2
          exact ⟨_, rfl, Kd.R_nil _ _ _ _ _, HB4.out⟩
        | false =>
          have H := H.out
          simp only [hany, Bool.false_eq_true, if_false] at H
          injection H with h4 h5
          obtain ⟨zs, hz⟩ : ∃ zs, zs = List.zipWith (fun p x => (⟨p, x⟩ : Pr)) (plN 0 l0) cs := ⟨_, rfl⟩
          have HZ := Aside0.mk (show pairs_Zip_int64.f K l0 cs = some (zs, 0) by
            rw [zip_eq l0 cs HW.out K (by have := HM.out.2; omega)]
            unfold zipRes
            have hpl : (plN 0 l0).length = cs.length := by
              have h1 := plN_length l0 0 (fun s hs => (spRight_pos l0 _ _ _ (spCheck_zero HP.out).2 s hs).1)
              have := HN.out; have := HNL.out; have := HL.out
              omega
            rw [if_pos HP.out, if_pos hpl, hz])
          rw [← hz] at h4
          subst h4; subst h5
          clear hz
          go_enter Try.func179, Try.ntmps179
          go_wp2_with (first | (go_at_call 130; (with_reducible refine (span_Check.calls K _ _ l0 0 _ HRA.out.1 HCA.out.1 HCk.out).mono ?_); rintro e w1 ⟨rfl, hb⟩; have HB := Aside0.mk hb; clear hb) | (go_at_call 187; (with_reducible refine (span_Count.calls K _ _ l0 n _ (Kd.C_below HRA.out.1 HB.out) HCA.out.1 HCt.out).mono ?_); rintro e w2 ⟨rfl, hb⟩; have HB2 := Aside0.mk (below_then HB.out HB.out.size hb); clear hb) | (go_at_call 48; (with_reducible refine (pairs_Absolute.calls K _ _ l1 cs _ _ (Kd.C_below HRA.out.2 HB2.out) HCA.out.2 HAb.out).mono ?_); rintro e w3 ⟨v3, rfl, ho3, hb⟩; have HB3 := Aside0.mk (below_then HB2.out HB2.out.size hb); obtain ⟨A3, c3, rfl, hc3, hC3⟩ := Kd.R_reads ho3; have HC3 := Aside0.mk (And.intro hc3 hC3); clear ho3 hC3 hc3 hb) | (go_at_call 191; (refine (containsFunc_num_int64 192 #[] (fun x => decide (x < 0)) _ _ cs _ HC3.out.2 HC3.out.1 HL3.out (fun W x _ => neg_any W x) (enters_of Try.func192 (by kernel_rfl) rfl)).mono ?_); rintro e w4 ⟨rfl, hb⟩; rw [hany]; have HB4 := Aside0.mk (below_then HB3.out HB3.out.size hb); have HC4 := Aside0.mk (Kd.C_below HC3.out.2 hb); clear hb) | (go_at_call 45; (with_reducible refine (pairs_Zip_int64.calls K _ _ l0 _ _ cs zs 0 _ (Kd.C_below HRA.out.1 HB4.out) HCA.out.1 HC4.out HC3.out.1 HZ.out).mono ?_); rintro e w5 ⟨v5, rfl, ho5, hb⟩; have HB5 := Aside0.mk (below_then HB4.out HB4.out.size hb); have HO5 := Aside0.mk (Kd.R_lower ho5 HB4.out.size); clear ho5 hb))
          go_ret2
          exact ⟨_, rfl, HO5.out, HB5.out⟩
end Go.Proofs.Ytacgeafjilipdaa.P
namespace Go.Proofs.Ytacgeafjilipdaa.P
open Go.RowKit Go.Shelf Go.Proofs.YtacgeafjilipdaaW.PrintWords Go.Proofs.YtacgeafjilipdaaW.PrintLast Go.Proofs.YtacgeafjilipdaaW.PrintMore
set_option linter.unusedVariables false
set_option linter.unusedSimpArgs false
theorem add64_run (x y : Int) (hx : 0 ≤ x) (hy : 0 ≤ y) (w : World) : (callFunc 193 #[.int .u64 x, .int .u64 y, .int .u64 0]).run Try.prog w =
    .ok (.value (.tuple #[.int .u64 ((x + y) % 18446744073709551616), .int .u64 ((x + y) / 18446744073709551616)])) w := by
  rw [run_callFunc_extern Try.func193 (by kernel_rfl) (by kernel_rfl) (by kernel_rfl) (e := add64Entry) (by kernel_rfl), run_add64 x y 0 hx hy (by decide) (by decide)]
  simp only [Result.andThen, Int.add_zero]
def sumV (l : List Pr) : Int := (l.map (·.f1)).sum
def sumR (rs : List (List Pr)) : Int := (rs.map sumV).sum
theorem sumV_take {l : List Pr} {i : Nat} (h : i < l.length) : sumV (l.take (i + 1)) = sumV (l.take i) + l[i].f1 := by
  unfold sumV; rw [take_at h, List.map_append, List.sum_append]; simp only [List.map_cons, List.map_nil, List.sum_cons, List.sum_nil, Int.add_zero]
theorem sumR_take {l : List (List Pr)} {i : Nat} (h : i < l.length) : sumR (l.take (i + 1)) = sumR (l.take i) + sumV l[i] := by
  unfold sumR; rw [take_at h, List.map_append, List.sum_append]; simp only [List.map_cons, List.map_nil, List.sum_cons, List.sum_nil, Int.add_zero]
theorem sum_nonneg {l : List Int} (h : ∀ x ∈ l, 0 ≤ x) : 0 ≤ l.sum := by
  induction l with
  | nil => simp
  | cons x l ih => have := ih (fun y hy => h y (List.mem_cons_of_mem _ hy)); have := h x (List.mem_cons_self ..); simp; omega
theorem sumV_nonneg {l : List Pr} (h : ∀ p ∈ l, 0 ≤ p.f1) : 0 ≤ sumV l := sum_nonneg (by intro x hx; obtain ⟨p, hp, rfl⟩ := List.mem_map.1 hx; exact h p hp)
theorem sumV_take_le {l : List Pr} (h : ∀ p ∈ l, 0 ≤ p.f1) (i : Nat) : 0 ≤ sumV (l.take i) ∧ sumV (l.take i) ≤ sumV l := by
  have e : sumV l = sumV (l.take i) + sumV (l.drop i) := by
    have : l = l.take i ++ l.drop i := (List.take_append_drop i l).symm
    conv => lhs; rw [this]
    unfold sumV; rw [List.map_append, List.sum_append]
  have h1 := sumV_nonneg (l := l.take i) (fun p hp => h p (List.mem_of_mem_take hp))
  have h2 := sumV_nonneg (l := l.drop i) (fun p hp => h p (List.mem_of_mem_drop hp))
  omega
theorem sumR_take_le {l : List (List Pr)} (h : ∀ r ∈ l, ∀ p ∈ r, 0 ≤ p.f1) (i : Nat) : 0 ≤ sumR (l.take i) ∧ sumR (l.take i) ≤ sumR l := by
  have hn : ∀ (l : List (List Pr)), (∀ r ∈ l, ∀ p ∈ r, 0 ≤ p.f1) → 0 ≤ sumR l := fun l h => sum_nonneg (by intro x hx; obtain ⟨p, hp, rfl⟩ := List.mem_map.1 hx; exact sumV_nonneg (h p hp))
  have e : sumR l = sumR (l.take i) + sumR (l.drop i) := by
    have : l = l.take i ++ l.drop i := (List.take_append_drop i l).symm
    conv => lhs; rw [this]
    unfold sumR; rw [List.map_append, List.sum_append]
  have h1 := hn (l.take i) (fun p hp => h p (List.mem_of_mem_take hp))
  have h2 := hn (l.drop i) (fun p hp => h p (List.mem_of_mem_drop hp))
  omega
def totalRes (zc : Int) (rows : List (List Pr)) : Int × Bool := if zc + sumR rows ≤ 18446744073709551615 then (zc + sumR rows, true) else (0, false)
def RowsAt (w : World) (B : Nat) (rows : List (List Pr)) : Prop :=
  ∀ i (h : i < rows.length), ∃ A c, w.cell? ⟨B, i, none⟩ = some (.slice A rows[i].length c) ∧ rows[i].length ≤ c ∧ Kd.C k26 w A rows[i].length rows[i]
set_option maxHeartbeats 8000000 in
set_option maxRecDepth 100000 in
theorem hist_total (s z zc ct sm : Int) (a5 a6 a7 a8 : Option Addr) (n5 n6 n7 n8 c5 c6 c7 c8 : Nat) (B cp : Nat) (rows : List (List Pr)) (w : World)
    (hzc : u64 zc) (hp : ∀ r ∈ rows, ∀ p ∈ r, 0 ≤ p.f1 ∧ p.f1 ≤ 9223372036854775807) (hl : ∀ r ∈ rows, r.length ≤ 4611686018427387904) (hl2 : rows.length ≤ 4611686018427387904) (hcp : rows.length ≤ cp) (hr : RowsAt w B rows) :
    Calls Try.prog 180 #[.agg #[.int .i64 s, .int .u64 z, .int .u64 zc, .int .u64 ct, .int .u64 sm, .slice a5 n5 c5, .slice a6 n6 c6, .slice a7 n7 c7, .slice a8 n8 c8], .slice (some ⟨B, 0, none⟩) rows.length cp] w fun e w' => e = .returned (.tuple #[.int .u64 (totalRes zc rows).1, .bool (totalRes zc rows).2]) ∧ Below w.heap.size w w' := by
  have hu := Try.underlying64
  have hpu := Try.underlying26
  have HZ := Aside0.mk hzc
  have HP := Aside0.mk hp
  have HL := Aside0.mk hl
  have HL2 := Aside0.mk (And.intro hl2 hcp)
  have HR := Aside0.mk hr
  have HT := Aside0.mk (fun i => sumR_take_le (l := rows) (fun r hr p hp2 => (hp r hr p hp2).1) i)
  clear hzc hp hl hl2 hcp hr
  go_enter Try.func180, Try.ntmps180
  go_wp2
  go_loopg [6, 16] rows.length (fun gg v6 v16 wr => ∃ i : Nat, v6 = .int .u64 (zc + sumR (rows.take i)) ∧ v16 = .int .i64 (i : Int) ∧ Aside0 (i + gg = rows.length) ∧ Aside0 (Below w.heap.size w wr) ∧ Aside0 (zc + sumR (rows.take i) ≤ 18446744073709551615))
  case atStart => exact ⟨0, by simp [sumR], rfl, ⟨by omega⟩, ⟨below_alloc (Below.refl _ _) _⟩, ⟨by have := HZ.out.2; simpa [sumR] using this⟩⟩
  case round =>
    obtain ⟨i, rfl, rfl, HI, HB, HS⟩ := hrel
    by_cases hlt : i < rows.length
    · have hlti : (i : Int) < (rows.length : Int) := by omega
      have hi0 : (0 : Int) ≤ (i : Int) := by omega
      obtain ⟨A, c, hc, hcl, hC⟩ := HR.out i hlt
      replace hc := (HB.out.cell (World.block_lt_of_cell? w _ hc)).trans hc
      have HC := Aside0.mk (And.intro hcl hC)
      have hmem : rows[i] ∈ rows := List.getElem_mem hlt
      have HP2 := Aside0.mk (And.intro (HP.out _ hmem) (HL.out _ hmem))
      have HSR := Aside0.mk (sumR_take hlt)
      generalize rows[i] = row at hc HC HP2 HSR
      clear hmem hcl hC
      obtain ⟨ko, rfl⟩ : ∃ ko, gk = ko + 1 := ⟨gk - 1, by have := HI.out; omega⟩
      go_wp2
      go_loopg [6, 22] row.length (fun gj v6 v22 wj => ∃ j : Nat, v6 = .int .u64 (zc + sumR (rows.take i) + sumV (row.take j)) ∧ v22 = .int .i64 (j : Int) ∧ Aside0 (j + gj = row.length) ∧ Aside0 (Below w.heap.size w wj) ∧ Aside0 (zc + sumR (rows.take i) + sumV (row.take j) ≤ 18446744073709551615))
      case atStart => exact ⟨0, by simp [sumV], rfl, ⟨by omega⟩, HB, ⟨by have := HS.out; simpa [sumV] using this⟩⟩
      case round =>
        obtain ⟨j, rfl, rfl, HJ, HBj, HSj⟩ := hrel
        by_cases hltj : j < row.length
        · have hltji : (j : Int) < (row.length : Int) := by omega
          have hj0 : (0 : Int) ≤ (j : Int) := by omega
          obtain ⟨k1, rfl⟩ : ∃ k1, gk = k1 + 1 := ⟨gk - 1, by have := HJ.out; omega⟩
          obtain ⟨ad, e1, hx0, hx1⟩ := at_T26 (Kd.C_below HC.out.2 HBj.out) (j : Int) hj0 hltji
          cases e1
          rw [rdPr_at hltj, Int.toNat_natCast] at hx0 hx1
          have hq := HP2.out.1 _ (List.getElem_mem hltj)
          have HV := Aside0.mk (sumV_take hltj)
          have hT := HT.out (i + 1)
          have hTi := HT.out i
          have hV := sumV_take_le (l := row) (fun p hp => (HP2.out.1 p hp).1) (j + 1)
          have hV0 := sumV_take_le (l := row) (fun p hp => (HP2.out.1 p hp).1) j
          have hz := HZ.out
          generalize row[j] = x at hx0 hx1 HV hq
          have hcv : IntKind.u64.wrap x.f1 = x.f1 := by
            have : IntKind.u64.wrap x.f1 = x.f1 % 18446744073709551616 := rfl
            rw [this]; omega
          obtain ⟨acc, hacc⟩ : ∃ acc, acc = zc + sumR (rows.take i) + sumV (row.take j) := ⟨_, rfl⟩
          rw [← hacc]
          have hs := HSj.out
          rw [← hacc] at hs
          have ha0 : 0 ≤ acc := by have := hz.1; omega
          have hadd := fun w => add64_run acc x.f1 ha0 hq.1 w
          by_cases hov : acc + x.f1 ≤ 18446744073709551615
          · have e1 : (acc + x.f1) % 18446744073709551616 = acc + x.f1 := by omega
            have e2 : (acc + x.f1) / 18446744073709551616 = 0 := by omega
            simp only [e1, e2] at hadd
            have HA := Aside0.mk (And.intro hacc hov)
            clear e1 e2 hacc hov ha0 hs hz hV hV0 hT hTi hq
            go_wp2_with (simp only [hcv, hadd])
            go_roundg k1
            case measure => omega
            case rel =>
              refine ⟨j + 1, ?_, by rw [wrap_succ (by have := HP2.out.2; omega)], ⟨by have := HJ.out; omega⟩, ⟨below_alloc HBj.out _⟩, ⟨?_⟩⟩
              · rw [HV.out, HA.out.1]; congr 1; omega
              · have h1 := HA.out.1; have h2 := HA.out.2; have h3 := HV.out; omega
          · have e1 : (acc + x.f1) / 18446744073709551616 = 1 := by omega
            simp only [e1] at hadd
            have HF := Aside0.mk (show totalRes zc rows = (0, false) by
              unfold totalRes
              rw [if_neg]
              have h3 := HV.out
              have h4 := HSR.out
              omega)
            clear e1 hacc hov ha0 hs hz hV hV0 hT hTi hq
            go_wp2_with (simp only [hcv, hadd])
            go_ret2
            exact ⟨by rw [HF.out]; rfl, below_alloc HBj.out _⟩
        · have hltji : ¬ (j : Int) < (row.length : Int) := by omega
          have HE := Aside0.mk (show zc + sumR (rows.take i) + sumV (row.take j) = zc + sumR (rows.take (i + 1)) by rw [HSR.out, List.take_of_length_le (l := row) (i := j) (by omega)]; omega)
          go_wp2
          go_roundg ko
          case measure => omega
          case rel =>
            refine ⟨i + 1, by rw [HE.out], by rw [wrap_succ (by have := HL2.out.1; omega)], ⟨by have := HI.out; omega⟩, ⟨HBj.out⟩, ⟨by rw [← HE.out]; exact HSj.out⟩⟩
    · have hlti : ¬ (i : Int) < (rows.length : Int) := by omega
      have HF := Aside0.mk (show totalRes zc rows = (zc + sumR (rows.take i), true) by
        unfold totalRes
        have := HS.out
        rw [List.take_of_length_le (l := rows) (i := i) (by omega)] at this ⊢
        rw [if_pos this])
      go_wp2
      go_ret2
      exact ⟨by rw [HF.out]; rfl, HB.out⟩
end Go.Proofs.Ytacgeafjilipdaa.P
namespace Go.Proofs.Ytacgeafjilipdaa.P
open Go.RowKit Go.Proofs.YtacgeafjilipdaaW.PrintWords Go.Proofs.YtacgeafjilipdaaW.PrintLast Go.Proofs.YtacgeafjilipdaaW.PrintMore
attribute [local go_sem] max2_int min2_int max_two min_two max_three min_three max_four min_four
set_option linter.unusedVariables false
set_option linter.unusedSimpArgs false
def hist_NaN.f (a0 : Int) : Option (Bool) := some (decide ((Go.bits .andNot .u64 a0 9223372036854775808) > 9218868437227405312))
set_option maxHeartbeats 8000000 in
set_option maxRecDepth 100000 in
theorem hist_NaN.calls (a0 : Int) (r : Bool) (w : World) (h : hist_NaN.f a0 = some r) :
  Calls Try.prog 72 #[.int .u64 a0] w fun e w' => e = .returned (.bool r) ∧ Drawn0 w w' := by
 have H : (some (decide ((Go.bits .andNot .u64 a0 9223372036854775808) > 9218868437227405312))) = some r := h
 clear h
 obtain rfl := Option.some.inj H
 go_enter Try.func72, Try.ntmps72
 go_wp2
 go_ret
 exact ⟨by first | rfl | (simp; done) | (simp [*]; done), by repeat (first | exact Drawn0.refl _ | apply Drawn0.step)⟩
def hist_Threshold.f (a0 : Int) : Option (Bool) := some (decide (a0 < 9218868437227405312))
set_option maxHeartbeats 8000000 in
set_option maxRecDepth 100000 in
theorem hist_Threshold.calls (a0 : Int) (r : Bool) (w : World) (h : hist_Threshold.f a0 = some r) :
  Calls Try.prog 74 #[.int .u64 a0] w fun e w' => e = .returned (.bool r) ∧ Drawn0 w w' := by
 have H : (some (decide (a0 < 9218868437227405312))) = some r := h
 clear h
 obtain rfl := Option.some.inj H
 go_enter Try.func74, Try.ntmps74
 go_wp2
 go_ret
 exact ⟨by first | rfl | (simp; done) | (simp [*]; done), by repeat (first | exact Drawn0.refl _ | apply Drawn0.step)⟩
def hist_lay.f (k : Nat) (l0 : List (S26)) : Option ((List (S144)) × List Int × Int) := (pairs_Unzip_int64.f k l0).bind fun bt101 => (if bt101.2.2 = 0 then ((pairs_Deltas.f k bt101.2.1).bind fun bt108 => (if bt108.2 = 0 then (some (bt101.1, bt108.1, 0)) else (some (([] : List (S144)), ([] : List Int), bt108.2)))) else (some (([] : List (S144)), ([] : List Int), bt101.2.2)))
set_option maxHeartbeats 8000000 in
set_option maxRecDepth 100000 in
theorem hist_lay.calls (k : Nat) (A0 : Option Addr) (c0 : Nat) (l0 : List (S26)) (r1 : List (S144)) (r2 : List Int) (r3 : Int) (w : World) (hr0 : Kd.C k26 w A0 l0.length l0) (hc0 : l0.length ≤ c0) (h : hist_lay.f k l0 = some (r1, r2, r3)) :
  Calls Try.prog 152 #[.slice A0 l0.length c0] w fun e w' => ∃ v0_ v1_ : Value, e = .returned (.tuple #[v0_, v1_, .int .i64 r3]) ∧ Kd.R k144 144 w' w.heap.size (fun _ => True) v0_ r1 ∧ Kd.R (Kd.int .i64) 2 w' w.heap.size (fun _ => True) v1_ r2 ∧ Below w.heap.size w w' := by
 have HR0 := Aside0.mk hr0
 have HC0 := Aside0.mk hc0
 clear hr0 hc0
 have HB := Aside0.mk (Below.refl w.heap.size w)
 have H : ((pairs_Unzip_int64.f k l0).bind fun bt101 => (if bt101.2.2 = 0 then ((pairs_Deltas.f k bt101.2.1).bind fun bt108 => (if bt108.2 = 0 then (some (bt101.1, bt108.1, 0)) else (some (([] : List (S144)), ([] : List Int), bt108.2)))) else (some (([] : List (S144)), ([] : List Int), bt101.2.2)))) = some (r1, r2, r3) := h
 clear h
 replace H := Option.bind_eq_some_iff.mp H
 obtain ⟨⟨t101, t102, t103⟩, A20, H⟩ := H
 replace H : (if t103 = 0 then ((pairs_Deltas.f k t102).bind fun bt108 => (if bt108.2 = 0 then (some (t101, bt108.1, 0)) else (some (([] : List (S144)), ([] : List Int), bt108.2)))) else (some (([] : List (S144)), ([] : List Int), t103))) = some (r1, r2, r3) := H
 have A2 := Aside0.mk A20
 clear A20
 by_cases c3 : t103 = 0
 ·rw [if_pos c3] at H
  have c3b0 : (t103 == 0) = true := beq_iff_eq.mpr c3
  have c3b1 : (t103 != 0) = false := bne_eq_false_iff_eq.mpr c3
  clear c3
  replace H := Option.bind_eq_some_iff.mp H
  obtain ⟨⟨t108, t109⟩, A40, H⟩ := H
  replace H : (if t109 = 0 then (some (t101, t108, 0)) else (some (([] : List (S144)), ([] : List Int), t109))) = some (r1, r2, r3) := H
  have A4 := Aside0.mk A40
  clear A40
  by_cases c5 : t109 = 0
  ·rw [if_pos c5] at H
   have c5b0 : (t109 == 0) = true := beq_iff_eq.mpr c5
   have c5b1 : (t109 != 0) = false := bne_eq_false_iff_eq.mpr c5
   clear c5
   simp only [Option.some.injEq, Prod.mk.injEq] at H
   obtain ⟨rfl, rfl, rfl⟩ := H
   go_enter Try.func152, Try.ntmps152
   go_wp2_with (first | ((with_reducible refine gate_callee (f := 31) rfl ?_); refine goesL_ (some 11) rfl rfl Try.func31 (by kernel_rfl) rfl #[.slice A0 l0.length c0] rfl (by (try simp only [List.map_toArray, List.map_cons, List.map_nil]); first | done | rfl | (simp only [List.length_drop, List.length_take]; rfl)) ?_; (with_reducible refine (pairs_Unzip_int64.calls k _ _ l0 t101 t102 t103 _ ?side1 ?side2 A2.out).mono ?_); (case side1 => repeat (first | exact HR0.out | (with_reducible refine Kd.C_alloc ?_ _) | (with_reducible refine Kd.C_drewN ?_ _) | (with_reducible refine Kd.C_drew ?_))); (case side2 => exact HC0.out); rintro e w6 ⟨v104, v106, rfl, ho0, ho1, hb⟩; refine ⟨_, rfl, ?_⟩; have n0_ := Aside0.mk (Kd.R_lower ho0 (below_size (by repeat (first | (with_reducible first | exact HB.out | apply below_alloc | apply pw_below_drewN | apply below_drew1) | exact HB.out)))); have n1_ := Aside0.mk (Kd.R_lower ho1 (below_size (by repeat (first | (with_reducible first | exact HB.out | apply below_alloc | apply pw_below_drewN | apply below_drew1) | exact HB.out)))); have n2_ := Aside0.mk (below_step (by repeat (first | (with_reducible first | exact HB.out | apply below_alloc | apply pw_below_drewN | apply below_drew1) | exact HB.out)) hb); clear HB; have HO105 := n0_; have HO107 := n1_; have HB := n2_; clear n0_ n1_ n2_; (try clear hb); (try clear hb2); (try clear hk); (try clear hi); (try clear ho0); (try clear ho1); clear A2; obtain ⟨Ao7, co7, eo7⟩ := Kd.R_slice HO107.out; subst eo7) | ((with_reducible refine gate_callee (f := 50) rfl ?_); refine goesL_ (some 20) rfl rfl Try.func50 (by kernel_rfl) rfl #[.slice Ao7 t102.length co7] rfl (by (try simp only [List.map_toArray, List.map_cons, List.map_nil]); first | done | rfl | (simp only [List.length_drop, List.length_take]; rfl)) ?_; (with_reducible refine (pairs_Deltas.calls k _ _ t102 t108 t109 _ ?side1 ?side2 A4.out).mono ?_); (case side1 => repeat (first | exact (Kd.R_reads' HO107.out).2.2 | (with_reducible refine Kd.C_alloc ?_ _) | (with_reducible refine Kd.C_drewN ?_ _) | (with_reducible refine Kd.C_drew ?_))); (case side2 => exact (Kd.R_reads' HO107.out).2.1); rintro e w8 ⟨v110, rfl, ho0, hb⟩; refine ⟨_, rfl, ?_⟩; have n0_ := Aside0.mk (Kd.R_below (by (with_reducible repeat (first | apply Kd.R_alloc | apply Kd.R_drewN | apply Kd.R_drew)); exact HO105.out) hb); have n1_ := Aside0.mk (Kd.R_elder' (by (with_reducible repeat (first | apply Kd.R_alloc | apply Kd.R_drewN | apply Kd.R_drew)); exact HO107.out) (Kd.R_base ho0) hb); have n2_ := Aside0.mk (Kd.R_lower (Kd.R_new' ho0 (Kd.R_lt (by (with_reducible repeat (first | apply Kd.R_alloc | apply Kd.R_drewN | apply Kd.R_drew)); exact HO107.out))) (below_size (by repeat (first | (with_reducible first | exact HB.out | apply below_alloc | apply pw_below_drewN | apply below_drew1) | exact HB.out)))); have n3_ := Aside0.mk (below_step (by repeat (first | (with_reducible first | exact HB.out | apply below_alloc | apply pw_below_drewN | apply below_drew1) | exact HB.out)) hb); clear HO105; clear HO107; clear HB; have HO105 := n0_; have HO107 := n1_; have HO111 := n2_; have HB := n3_; clear n0_ n1_ n2_ n3_; (try clear hb); (try clear hb2); (try clear hk); (try clear hi); (try clear ho0); clear A4))
   go_ret3
   exact ⟨_, _, by first | rfl | (simp [errW_none, errW_some] <;> rfl) | (simp [*, errW_none, errW_some] <;> rfl), by (with_reducible repeat (first | apply Kd.R_alloc | apply Kd.R_drewN | apply Kd.R_drew)); exact HO105.out, by (with_reducible repeat (first | apply Kd.R_alloc | apply Kd.R_drewN | apply Kd.R_drew)); exact Kd.R_mono HO111.out (fun _ hk => trivial), by repeat (first | (with_reducible first | exact HB.out | apply below_alloc | apply pw_below_drewN | apply below_drew1) | exact HB.out)⟩
  ·rw [if_neg c5] at H
   have c5b0 : (t109 == 0) = false := beq_eq_false_iff_ne.mpr c5
   have c5b1 : (t109 != 0) = true := bne_iff_ne.mpr c5
   simp only [Option.some.injEq, Prod.mk.injEq] at H
   obtain ⟨rfl, rfl, rfl⟩ := H
   go_enter Try.func152, Try.ntmps152
   go_wp2_with (first | ((with_reducible refine gate_callee (f := 31) rfl ?_); refine goesL_ (some 11) rfl rfl Try.func31 (by kernel_rfl) rfl #[.slice A0 l0.length c0] rfl (by (try simp only [List.map_toArray, List.map_cons, List.map_nil]); first | done | rfl | (simp only [List.length_drop, List.length_take]; rfl)) ?_; (with_reducible refine (pairs_Unzip_int64.calls k _ _ l0 t101 t102 t103 _ ?side1 ?side2 A2.out).mono ?_); (case side1 => repeat (first | exact HR0.out | (with_reducible refine Kd.C_alloc ?_ _) | (with_reducible refine Kd.C_drewN ?_ _) | (with_reducible refine Kd.C_drew ?_))); (case side2 => exact HC0.out); rintro e w9 ⟨v104, v106, rfl, ho0, ho1, hb⟩; refine ⟨_, rfl, ?_⟩; have n0_ := Aside0.mk (Kd.R_lower ho0 (below_size (by repeat (first | (with_reducible first | exact HB.out | apply below_alloc | apply pw_below_drewN | apply below_drew1) | exact HB.out)))); have n1_ := Aside0.mk (Kd.R_lower ho1 (below_size (by repeat (first | (with_reducible first | exact HB.out | apply below_alloc | apply pw_below_drewN | apply below_drew1) | exact HB.out)))); have n2_ := Aside0.mk (below_step (by repeat (first | (with_reducible first | exact HB.out | apply below_alloc | apply pw_below_drewN | apply below_drew1) | exact HB.out)) hb); clear HB; have HO105 := n0_; have HO107 := n1_; have HB := n2_; clear n0_ n1_ n2_; (try clear hb); (try clear hb2); (try clear hk); (try clear hi); (try clear ho0); (try clear ho1); clear A2; obtain ⟨Ao10, co10, eo10⟩ := Kd.R_slice HO107.out; subst eo10) | ((with_reducible refine gate_callee (f := 50) rfl ?_); refine goesL_ (some 20) rfl rfl Try.func50 (by kernel_rfl) rfl #[.slice Ao10 t102.length co10] rfl (by (try simp only [List.map_toArray, List.map_cons, List.map_nil]); first | done | rfl | (simp only [List.length_drop, List.length_take]; rfl)) ?_; (with_reducible refine (pairs_Deltas.calls k _ _ t102 t108 t109 _ ?side1 ?side2 A4.out).mono ?_); (case side1 => repeat (first | exact (Kd.R_reads' HO107.out).2.2 | (with_reducible refine Kd.C_alloc ?_ _) | (with_reducible refine Kd.C_drewN ?_ _) | (with_reducible refine Kd.C_drew ?_))); (case side2 => exact (Kd.R_reads' HO107.out).2.1); rintro e w11 ⟨v110, rfl, ho0, hb⟩; refine ⟨_, rfl, ?_⟩; have n0_ := Aside0.mk (Kd.R_below (by (with_reducible repeat (first | apply Kd.R_alloc | apply Kd.R_drewN | apply Kd.R_drew)); exact HO105.out) hb); have n1_ := Aside0.mk (Kd.R_elder' (by (with_reducible repeat (first | apply Kd.R_alloc | apply Kd.R_drewN | apply Kd.R_drew)); exact HO107.out) (Kd.R_base ho0) hb); have n2_ := Aside0.mk (Kd.R_lower (Kd.R_new' ho0 (Kd.R_lt (by (with_reducible repeat (first | apply Kd.R_alloc | apply Kd.R_drewN | apply Kd.R_drew)); exact HO107.out))) (below_size (by repeat (first | (with_reducible first | exact HB.out | apply below_alloc | apply pw_below_drewN | apply below_drew1) | exact HB.out)))); have n3_ := Aside0.mk (below_step (by repeat (first | (with_reducible first | exact HB.out | apply below_alloc | apply pw_below_drewN | apply below_drew1) | exact HB.out)) hb); clear HO105; clear HO107; clear HB; have HO105 := n0_; have HO107 := n1_; have HO111 := n2_; have HB := n3_; clear n0_ n1_ n2_ n3_; (try clear hb); (try clear hb2); (try clear hk); (try clear hi); (try clear ho0); clear A4))
   go_ret3
   exact ⟨_, _, by first | rfl | (simp [errW_none, errW_some] <;> rfl) | (simp [*, errW_none, errW_some] <;> rfl), by first | exact Kd.R_nil _ _ _ _ _ | exact Kd.N_nil _ _ _ _ _ | exact Kd.V_nil _ _ _ _ _ | exact Kd.Q_nil _ _ _ _ _ | exact Kd.S_nil _ _ _ _ _, by first | exact Kd.R_nil _ _ _ _ _ | exact Kd.N_nil _ _ _ _ _ | exact Kd.V_nil _ _ _ _ _ | exact Kd.Q_nil _ _ _ _ _ | exact Kd.S_nil _ _ _ _ _, by repeat (first | (with_reducible first | exact HB.out | apply below_alloc | apply pw_below_drewN | apply below_drew1) | exact HB.out)⟩
 ·rw [if_neg c3] at H
  have c3b0 : (t103 == 0) = false := beq_eq_false_iff_ne.mpr c3
  have c3b1 : (t103 != 0) = true := bne_iff_ne.mpr c3
  simp only [Option.some.injEq, Prod.mk.injEq] at H
  obtain ⟨rfl, rfl, rfl⟩ := H
  go_enter Try.func152, Try.ntmps152
  go_wp2_with (first | ((with_reducible refine gate_callee (f := 31) rfl ?_); refine goesL_ (some 11) rfl rfl Try.func31 (by kernel_rfl) rfl #[.slice A0 l0.length c0] rfl (by (try simp only [List.map_toArray, List.map_cons, List.map_nil]); first | done | rfl | (simp only [List.length_drop, List.length_take]; rfl)) ?_; (with_reducible refine (pairs_Unzip_int64.calls k _ _ l0 t101 t102 t103 _ ?side1 ?side2 A2.out).mono ?_); (case side1 => repeat (first | exact HR0.out | (with_reducible refine Kd.C_alloc ?_ _) | (with_reducible refine Kd.C_drewN ?_ _) | (with_reducible refine Kd.C_drew ?_))); (case side2 => exact HC0.out); rintro e w12 ⟨v104, v106, rfl, ho0, ho1, hb⟩; refine ⟨_, rfl, ?_⟩; have n0_ := Aside0.mk (Kd.R_lower ho0 (below_size (by repeat (first | (with_reducible first | exact HB.out | apply below_alloc | apply pw_below_drewN | apply below_drew1) | exact HB.out)))); have n1_ := Aside0.mk (Kd.R_lower ho1 (below_size (by repeat (first | (with_reducible first | exact HB.out | apply below_alloc | apply pw_below_drewN | apply below_drew1) | exact HB.out)))); have n2_ := Aside0.mk (below_step (by repeat (first | (with_reducible first | exact HB.out | apply below_alloc | apply pw_below_drewN | apply below_drew1) | exact HB.out)) hb); clear HB; have HO105 := n0_; have HO107 := n1_; have HB := n2_; clear n0_ n1_ n2_; (try clear hb); (try clear hb2); (try clear hk); (try clear hi); (try clear ho0); (try clear ho1); clear A2))
  go_ret3
  exact ⟨_, _, by first | rfl | (simp [errW_none, errW_some] <;> rfl) | (simp [*, errW_none, errW_some] <;> rfl), by first | exact Kd.R_nil _ _ _ _ _ | exact Kd.N_nil _ _ _ _ _ | exact Kd.V_nil _ _ _ _ _ | exact Kd.Q_nil _ _ _ _ _ | exact Kd.S_nil _ _ _ _ _, by first | exact Kd.R_nil _ _ _ _ _ | exact Kd.N_nil _ _ _ _ _ | exact Kd.V_nil _ _ _ _ _ | exact Kd.Q_nil _ _ _ _ _ | exact Kd.S_nil _ _ _ _ _, by repeat (first | (with_reducible first | exact HB.out | apply below_alloc | apply pw_below_drewN | apply below_drew1) | exact HB.out)⟩
end Go.Proofs.Ytacgeafjilipdaa.P
namespace Go.Proofs.Ytacgeafjilipdaa.P
open Go.RowKit Go.Shelf Go.Proofs.YtacgeafjilipdaaW.PrintWords Go.Proofs.YtacgeafjilipdaaW.PrintLast Go.Proofs.YtacgeafjilipdaaW.PrintMore
set_option linter.unusedVariables false
set_option linter.unusedSimpArgs false
def nan (v : Int) : Bool := decide ((Go.bits .andNot .u64 v 9223372036854775808) > 9218868437227405312)
def fits (zc ct sm : Int) (p n : List Pr) : Bool := (totalRes zc [p, n]).2 && decide ((totalRes zc [p, n]).1 ≤ ct) && (decide (¬ (totalRes zc [p, n]).1 < ct) || nan sm)
def openRes (s z zc ct sm : Int) (l5 l6 : List Sp) (l7 l8 : List Int) : List Pr × List Pr × Int :=
  if s < -4 ∨ s > 8 then ([], [], 21) else if ¬ z < 9218868437227405312 then ([], [], 11)
  else if (sideRes l5 l7).2 ≠ 0 then ([], [], (sideRes l5 l7).2) else if (sideRes l6 l8).2 ≠ 0 then ([], [], (sideRes l6 l8).2)
  else if fits zc ct sm (sideRes l5 l7).1 (sideRes l6 l8).1 = true then ((sideRes l5 l7).1, (sideRes l6 l8).1, 0) else ([], [], 22)
def wfHi (s z zc ct sm : Int) (l5 l6 : List Sp) (l7 l8 : List Int) : Prop := i64 s ∧ u64 z ∧ u64 zc ∧ u64 ct ∧ u64 sm ∧ wfSps l5 ∧ wfSps l6 ∧ i64s l7 ∧ i64s l8 ∧ l7.length < 4398046511104 ∧ l8.length < 4398046511104
instance (s z zc ct sm : Int) (l5 l6 : List Sp) (l7 l8 : List Int) : Decidable (wfHi s z zc ct sm l5 l6 l7 l8) := by unfold wfHi; exact inferInstance
def hist_open.f (s z zc ct sm : Int) (l5 l6 : List Sp) (l7 l8 : List Int) : Option (List Pr × List Pr × Int) := if wfHi s z zc ct sm l5 l6 l7 l8 then some (openRes s z zc ct sm l5 l6 l7 l8) else none
theorem sideRes_ok {l : List Sp} {d : List Int} (hd : i64s d) (h : (sideRes l d).2 = 0) : (∀ p ∈ (sideRes l d).1, 0 ≤ p.f1 ∧ p.f1 ≤ 9223372036854775807) ∧ (sideRes l d).1.length ≤ 4096 := by
  unfold sideRes at h ⊢
  by_cases c1 : spCheck l = 0
  rotate_left
  · rw [if_neg c1] at h; exact absurd h c1
  rw [if_pos c1] at h ⊢
  by_cases c2 : cntN l = d.length
  rotate_left
  · rw [if_neg c2] at h; cases h
  rw [if_pos c2] at h ⊢
  cases hs : sumsFrom 0 d with
  | none => rw [hs] at h; cases h
  | some c =>
    rw [hs] at h
    simp only at h ⊢
    by_cases c3 : c.any (fun x => decide (x < 0)) = true
    · rw [if_pos c3] at h; cases h
    rw [if_neg c3]
    have hi := sumsFrom_i64 d 0 c hs
    refine ⟨fun p hp => ?_, by have := places_len c1; simp; omega⟩
    have : p.f1 ∈ c := by
      obtain ⟨i, hi2, rfl⟩ := List.mem_iff_getElem.1 hp
      simp only [List.getElem_zipWith]
      exact List.getElem_mem _
    have h1 := hi _ this
    refine ⟨?_, h1.2⟩
    by_cases hneg : p.f1 < 0
    · exact absurd (List.any_eq_true.2 ⟨_, this, decide_eq_true hneg⟩) c3
    · omega
theorem rowsAt_two {w : World} {b1 b2 : Nat} {ok1 ok2 : Nat → Prop} {A B : Option Addr} {c d : Nat} {p n : List Pr} (h1 : Kd.R k26 26 w b1 ok1 (.slice A p.length c) p) (h2 : Kd.R k26 26 w b2 ok2 (.slice B n.length d) n) :
    RowsAt (w.alloc (.cells #[.slice A p.length c, .slice B n.length d] 22)) w.heap.size [p, n] := by
  have hb := blk_new w (.cells #[.slice A p.length c, .slice B n.length d] 22)
  intro i hi
  match i, hi with
  | 0, _ => exact ⟨A, c, (blk_cell hb 0).trans rfl, (Kd.R_reads' h1).2.1, Kd.C_below (Kd.R_reads' h1).2.2 (below_alloc (Below.refl _ _) _)⟩
  | 1, _ => exact ⟨B, d, (blk_cell hb 1).trans rfl, (Kd.R_reads' h2).2.1, Kd.C_below (Kd.R_reads' h2).2.2 (below_alloc (Below.refl _ _) _)⟩
theorem R_apart_two {w : World} {b1 b2 m b0 : Nat} {v1 v2 : Value} {p n : List Pr} (h1 : Kd.R k26 26 w b1 (fun k => k < m ∧ b0 ≤ k) v1 p) (h2 : Kd.R k26 26 w b2 (fun k => m ≤ k ∧ b0 ≤ k) v2 n) :
    Kd.R k26 26 w b1 (fun k_ => (b0 ≤ k_) ∧ some k_ ≠ v2.ownBlock) v1 p ∧ Kd.R k26 26 w b2 (fun k_ => (b0 ≤ k_) ∧ some k_ ≠ v1.ownBlock) v2 n := by
  refine ⟨Kd.R_mono h1 (fun k hk => ⟨hk.2, fun e => ?_⟩), Kd.R_mono h2 (fun k hk => ⟨hk.2, fun e => ?_⟩)⟩
  · have := h2.1 k e.symm; omega
  · have := h1.1 k e.symm; omega
set_option maxHeartbeats 8000000 in
set_option maxRecDepth 100000 in
theorem hist_open.calls (s z zc ct sm : Int) (A5 : Option Addr) (c5 : Nat) (l5 : List Sp) (A6 : Option Addr) (c6 : Nat) (l6 : List Sp) (A7 : Option Addr) (c7 : Nat) (l7 : List Int) (A8 : Option Addr) (c8 : Nat) (l8 : List Int) (r1 r2 : List Pr) (r3 : Int) (w : World)
    (hr5 : Kd.C k144 w A5 l5.length l5) (hc5 : l5.length ≤ c5) (hr6 : Kd.C k144 w A6 l6.length l6) (hc6 : l6.length ≤ c6) (hr7 : Kd.C (Kd.int .i64) w A7 l7.length l7) (hc7 : l7.length ≤ c7) (hr8 : Kd.C (Kd.int .i64) w A8 l8.length l8) (hc8 : l8.length ≤ c8)
    (h : hist_open.f s z zc ct sm l5 l6 l7 l8 = some (r1, r2, r3)) :
    Calls Try.prog 146 #[.agg #[.int .i64 s, .int .u64 z, .int .u64 zc, .int .u64 ct, .int .u64 sm, .slice A5 l5.length c5, .slice A6 l6.length c6, .slice A7 l7.length c7, .slice A8 l8.length c8]] w fun e w' => ∃ v0_ v1_ : Value, e = .returned (.tuple #[v0_, v1_, .int .i64 r3]) ∧ Kd.R k26 26 w' w.heap.size (fun k_ => (w.heap.size ≤ k_) ∧ some k_ ≠ (v1_ : Value).ownBlock) v0_ r1 ∧ Kd.R k26 26 w' w.heap.size (fun k_ => (w.heap.size ≤ k_) ∧ some k_ ≠ (v0_ : Value).ownBlock) v1_ r2 ∧ Below w.heap.size w w' := by
  obtain ⟨hw, h2⟩ := of_ite_some h
  clear h
  obtain ⟨hs, hz, hzc, hct, hsm, hw5, hw6, hi7, hi8, hm7, hm8⟩ := hw
  have hu := Try.underlying64
  have HRA := Aside0.mk (And.intro hr5 (And.intro hr6 (And.intro hr7 hr8)))
  have HCA := Aside0.mk (And.intro hc5 (And.intro hc6 (And.intro hc7 hc8)))
  have H := Aside0.mk h2
  have hs5 : hist_side.f l5 l7 = some (sideRes l5 l7) := if_pos ⟨hw5, hi7, hm7⟩
  have hs6 : hist_side.f l6 l8 = some (sideRes l6 l8) := if_pos ⟨hw6, hi8, hm8⟩
  have hok5 := sideRes_ok (l := l5) hi7
  have hok6 := sideRes_ok (l := l6) hi8
  clear h2 hr5 hr6 hr7 hr8 hc5 hc6 hc7 hc8 hw5 hw6 hi7 hi8 hm7 hm8
  unfold openRes at H
  generalize sideRes l5 l7 = q5 at H hs5 hok5
  generalize sideRes l6 l8 = q6 at H hs6 hok6
  obtain ⟨p, e5⟩ := q5
  obtain ⟨n, e6⟩ := q6
  simp only at H hok5 hok6
  have HS5 := Aside0.mk hs5
  have HS6 := Aside0.mk hs6
  have HOK := Aside0.mk (And.intro hok5 hok6)
  have HU := Aside0.mk (And.intro hzc (And.intro hct hsm))
  clear hs5 hs6 hok5 hok6 hzc hct hsm hs hz
  by_cases c1 : s < -4
  · have H := H.out
    rw [if_pos (Or.inl c1)] at H
    injection H with h4 h5; injection h5 with h5 h6
    subst h4; subst h5; subst h6
    have c1b : decide (s < -4) = true := decide_eq_true c1
    clear c1
    go_enter Try.func146, Try.ntmps146
    go_wp2
    go_ret3
    exact ⟨_, _, rfl, Kd.R_nil _ _ _ _ _, Kd.R_nil _ _ _ _ _, below_alloc (Below.refl _ _) _⟩
  by_cases c2 : s > 8
  · have H := H.out
    rw [if_pos (Or.inr c2)] at H
    injection H with h4 h5; injection h5 with h5 h6
    subst h4; subst h5; subst h6
    have c1b : decide (s < -4) = false := decide_eq_false c1
    have c2b : decide (8 < s) = true := decide_eq_true c2
    clear c1 c2
    go_enter Try.func146, Try.ntmps146
    go_wp2
    go_ret3
    exact ⟨_, _, rfl, Kd.R_nil _ _ _ _ _, Kd.R_nil _ _ _ _ _, below_alloc (Below.refl _ _) _⟩
  have c1b : decide (s < -4) = false := decide_eq_false c1
  have c2b : decide (8 < s) = false := decide_eq_false c2
  rw [if_neg (by omega)] at H
  clear c1 c2
  obtain ⟨tz, htz⟩ : ∃ b, b = decide (z < 9218868437227405312) := ⟨_, rfl⟩
  have HTh := Aside0.mk (show hist_Threshold.f z = some tz by rw [htz]; rfl)
  by_cases c3 : z < 9218868437227405312
  rotate_left
  · have H := H.out
    rw [if_pos c3] at H
    injection H with h4 h5; injection h5 with h5 h6
    subst h4; subst h5; subst h6
    rw [decide_eq_false c3] at htz
    subst htz
    clear c3
    go_enter Try.func146, Try.ntmps146
    go_wp2_with (first | (go_at_call 74; (with_reducible refine (hist_Threshold.calls z _ _ HTh.out).mono ?_); rintro e w1 ⟨rfl, hb⟩; have HB1 := Aside0.mk (below_then (below_alloc (Below.refl w.heap.size w) (.cells #[.int .i64 s, .int .u64 z, .int .u64 zc, .int .u64 ct, .int .u64 sm, .slice A5 l5.length c5, .slice A6 l6.length c6, .slice A7 l7.length c7, .slice A8 l8.length c8] 64)) (by simp) hb.below); have HX1 := Aside0.mk (blk_below (blk_new w (.cells #[.int .i64 s, .int .u64 z, .int .u64 zc, .int .u64 ct, .int .u64 sm, .slice A5 l5.length c5, .slice A6 l6.length c6, .slice A7 l7.length c7, .slice A8 l8.length c8] 64)) hb.below); have hf := fun i => blk_cell HX1.out i; clear hb))
    go_ret3
    exact ⟨_, _, rfl, Kd.R_nil _ _ _ _ _, Kd.R_nil _ _ _ _ _, HB1.out⟩
  rw [decide_eq_true c3] at htz
  subst htz
  rw [if_neg (by omega)] at H
  clear c3
  by_cases c4 : e5 = 0
  rotate_left
  · have H := H.out
    rw [if_pos c4] at H
    injection H with h4 h5; injection h5 with h5 h6
    subst h4; subst h5; subst h6
    have c4b : (e5 == 0) = false := beq_eq_false_iff_ne.2 c4
    have c4c : (e5 != 0) = true := bne_iff_ne.2 c4
    clear c4
    go_enter Try.func146, Try.ntmps146
    go_wp2_with (first | (go_at_call 74; (with_reducible refine (hist_Threshold.calls z _ _ HTh.out).mono ?_); rintro e w1 ⟨rfl, hb⟩; have HB1 := Aside0.mk (below_then (below_alloc (Below.refl w.heap.size w) (.cells #[.int .i64 s, .int .u64 z, .int .u64 zc, .int .u64 ct, .int .u64 sm, .slice A5 l5.length c5, .slice A6 l6.length c6, .slice A7 l7.length c7, .slice A8 l8.length c8] 64)) (by simp) hb.below); have HX1 := Aside0.mk (blk_below (blk_new w (.cells #[.int .i64 s, .int .u64 z, .int .u64 zc, .int .u64 ct, .int .u64 sm, .slice A5 l5.length c5, .slice A6 l6.length c6, .slice A7 l7.length c7, .slice A8 l8.length c8] 64)) hb.below); have hf := fun i => blk_cell HX1.out i; clear hb) | (go_at_call 179; (with_reducible refine (hist_side.calls _ _ l5 _ _ l7 p _ _ (Kd.C_below HRA.out.1 HB1.out) HCA.out.1 (Kd.C_below HRA.out.2.2.1 HB1.out) HCA.out.2.2.1 HS5.out).mono ?_); rintro e w2 ⟨v2, rfl, ho2, hb⟩; have HB2 := Aside0.mk (below_then HB1.out HB1.out.size hb); have HX2 := Aside0.mk (blk_below HX1.out hb); have hf2 := fun i => blk_cell HX2.out i; have HO2 := Aside0.mk (Kd.R_mono (ok' := fun k => k < w2.heap.size ∧ w.heap.size ≤ k) (Kd.R_lower (Kd.R_bound ho2) HB1.out.size) (fun k hk => ⟨hk.2.2.1, Nat.le_trans HB1.out.size hk.2.1⟩)); obtain ⟨B2, d2, eo2⟩ := Kd.R_slice ho2; subst eo2; clear ho2 hb))
    go_ret3
    exact ⟨_, _, rfl, Kd.R_nil _ _ _ _ _, Kd.R_nil _ _ _ _ _, HB2.out⟩
  subst c4
  rw [if_neg (by simp)] at H
  by_cases c5' : e6 = 0
  rotate_left
  · have H := H.out
    rw [if_pos c5'] at H
    injection H with h4 h5; injection h5 with h5 h6
    subst h4; subst h5; subst h6
    have c4b : (e6 == 0) = false := beq_eq_false_iff_ne.2 c5'
    have c4c : (e6 != 0) = true := bne_iff_ne.2 c5'
    clear c5'
    go_enter Try.func146, Try.ntmps146
    go_wp2_with (first | (go_at_call 74; (with_reducible refine (hist_Threshold.calls z _ _ HTh.out).mono ?_); rintro e w1 ⟨rfl, hb⟩; have HB1 := Aside0.mk (below_then (below_alloc (Below.refl w.heap.size w) (.cells #[.int .i64 s, .int .u64 z, .int .u64 zc, .int .u64 ct, .int .u64 sm, .slice A5 l5.length c5, .slice A6 l6.length c6, .slice A7 l7.length c7, .slice A8 l8.length c8] 64)) (by simp) hb.below); have HX1 := Aside0.mk (blk_below (blk_new w (.cells #[.int .i64 s, .int .u64 z, .int .u64 zc, .int .u64 ct, .int .u64 sm, .slice A5 l5.length c5, .slice A6 l6.length c6, .slice A7 l7.length c7, .slice A8 l8.length c8] 64)) hb.below); have hf := fun i => blk_cell HX1.out i; clear hb) | (go_at_call 179; (with_reducible refine (hist_side.calls _ _ l5 _ _ l7 p _ _ (Kd.C_below HRA.out.1 HB1.out) HCA.out.1 (Kd.C_below HRA.out.2.2.1 HB1.out) HCA.out.2.2.1 HS5.out).mono ?_); rintro e w2 ⟨v2, rfl, ho2, hb⟩; have HB2 := Aside0.mk (below_then HB1.out HB1.out.size hb); have HX2 := Aside0.mk (blk_below HX1.out hb); have hf2 := fun i => blk_cell HX2.out i; have HO2 := Aside0.mk (Kd.R_mono (ok' := fun k => k < w2.heap.size ∧ w.heap.size ≤ k) (Kd.R_lower (Kd.R_bound ho2) HB1.out.size) (fun k hk => ⟨hk.2.2.1, Nat.le_trans HB1.out.size hk.2.1⟩)); obtain ⟨B2, d2, eo2⟩ := Kd.R_slice ho2; subst eo2; clear ho2 hb) | (go_at_call 179; (with_reducible refine (hist_side.calls _ _ l6 _ _ l8 n _ _ (Kd.C_below HRA.out.2.1 HB2.out) HCA.out.2.1 (Kd.C_below HRA.out.2.2.2 HB2.out) HCA.out.2.2.2 HS6.out).mono ?_); rintro e w3 ⟨v3, rfl, ho3, hb⟩; have HB3 := Aside0.mk (below_then HB2.out HB2.out.size hb); have HX3 := Aside0.mk (blk_below HX2.out hb); have hf3 := fun i => blk_cell HX3.out i; have HO3 := Aside0.mk (And.intro (Kd.R_below HO2.out hb) (Kd.R_mono (ok' := fun k => w2.heap.size ≤ k ∧ w.heap.size ≤ k) (Kd.R_lower (Kd.R_bound ho3) HB2.out.size) (fun k hk => ⟨hk.2.1, Nat.le_trans HB2.out.size hk.2.1⟩))); obtain ⟨B3, d3, eo3⟩ := Kd.R_slice ho3; subst eo3; clear ho3 hb))
    go_ret3
    exact ⟨_, _, rfl, Kd.R_nil _ _ _ _ _, Kd.R_nil _ _ _ _ _, HB3.out⟩
  subst c5'
  rw [if_neg (by simp)] at H
  have HV := Aside0.mk (show u64 zc ∧ (∀ r ∈ [p, n], ∀ q ∈ r, 0 ≤ q.f1 ∧ q.f1 ≤ 9223372036854775807) ∧ (∀ r ∈ [p, n], r.length ≤ 4611686018427387904) by
    have h1 := HOK.out.1 rfl
    have h2 := HOK.out.2 rfl
    refine ⟨HU.out.1, fun r hr => ?_, fun r hr => ?_⟩
    · simp at hr; rcases hr with rfl | rfl
      · exact h1.1
      · exact h2.1
    · simp at hr; rcases hr with rfl | rfl <;> omega)
  obtain ⟨⟨tt, tb⟩, htt⟩ : ∃ t, t = totalRes zc [p, n] := ⟨_, rfl⟩
  have HTot := Aside0.mk htt.symm
  obtain ⟨bn, hbn⟩ : ∃ b, b = nan sm := ⟨_, rfl⟩
  have HNa := Aside0.mk (show hist_NaN.f sm = some bn by rw [hbn]; rfl)
  unfold fits at H
  rw [← htt, ← hbn] at H
  simp only at H
  clear htt hbn
  cases tb with
  | false =>
    have H := H.out
    rw [if_neg (by simp)] at H
    injection H with h4 h5; injection h5 with h5 h6
    subst h4; subst h5; subst h6
    go_enter Try.func146, Try.ntmps146
    go_wp2_with (first | (go_at_call 74; (with_reducible refine (hist_Threshold.calls z _ _ HTh.out).mono ?_); rintro e w1 ⟨rfl, hb⟩; have HB1 := Aside0.mk (below_then (below_alloc (Below.refl w.heap.size w) (.cells #[.int .i64 s, .int .u64 z, .int .u64 zc, .int .u64 ct, .int .u64 sm, .slice A5 l5.length c5, .slice A6 l6.length c6, .slice A7 l7.length c7, .slice A8 l8.length c8] 64)) (by simp) hb.below); have HX1 := Aside0.mk (blk_below (blk_new w (.cells #[.int .i64 s, .int .u64 z, .int .u64 zc, .int .u64 ct, .int .u64 sm, .slice A5 l5.length c5, .slice A6 l6.length c6, .slice A7 l7.length c7, .slice A8 l8.length c8] 64)) hb.below); have hf := fun i => blk_cell HX1.out i; clear hb) | (go_at_call 179; (with_reducible refine (hist_side.calls _ _ l5 _ _ l7 p _ _ (Kd.C_below HRA.out.1 HB1.out) HCA.out.1 (Kd.C_below HRA.out.2.2.1 HB1.out) HCA.out.2.2.1 HS5.out).mono ?_); rintro e w2 ⟨v2, rfl, ho2, hb⟩; have HB2 := Aside0.mk (below_then HB1.out HB1.out.size hb); have HX2 := Aside0.mk (blk_below HX1.out hb); have hf2 := fun i => blk_cell HX2.out i; have HO2 := Aside0.mk (Kd.R_mono (ok' := fun k => k < w2.heap.size ∧ w.heap.size ≤ k) (Kd.R_lower (Kd.R_bound ho2) HB1.out.size) (fun k hk => ⟨hk.2.2.1, Nat.le_trans HB1.out.size hk.2.1⟩)); obtain ⟨B2, d2, eo2⟩ := Kd.R_slice ho2; subst eo2; clear ho2 hb) | (go_at_call 179; (with_reducible refine (hist_side.calls _ _ l6 _ _ l8 n _ _ (Kd.C_below HRA.out.2.1 HB2.out) HCA.out.2.1 (Kd.C_below HRA.out.2.2.2 HB2.out) HCA.out.2.2.2 HS6.out).mono ?_); rintro e w3 ⟨v3, rfl, ho3, hb⟩; have HB3 := Aside0.mk (below_then HB2.out HB2.out.size hb); have HX3 := Aside0.mk (blk_below HX2.out hb); have hf3 := fun i => blk_cell HX3.out i; have HO3 := Aside0.mk (And.intro (Kd.R_below HO2.out hb) (Kd.R_mono (ok' := fun k => w2.heap.size ≤ k ∧ w.heap.size ≤ k) (Kd.R_lower (Kd.R_bound ho3) HB2.out.size) (fun k hk => ⟨hk.2.1, Nat.le_trans HB2.out.size hk.2.1⟩))); obtain ⟨B3, d3, eo3⟩ := Kd.R_slice ho3; subst eo3; clear ho3 hb) | (go_at_call 180; refine (hist_total s z zc ct sm _ _ _ _ _ _ _ _ _ _ _ _ w3.heap.size _ [p, n] _ HV.out.1 HV.out.2.1 HV.out.2.2 (by simp) (by simp) (rowsAt_two HO3.out.1 HO3.out.2)).mono ?_; rintro e w4 ⟨rfl, hb⟩; rw [HTot.out]; have HB4 := Aside0.mk (below_then HB3.out HB3.out.size (below_then (below_alloc (Below.refl _ _) _) (by simp) hb)); have HX4 := Aside0.mk (blk_below HX3.out (below_then (below_alloc (Below.refl _ _) _) (by simp) hb)); have hf4 := fun i => blk_cell HX4.out i; have HO4 := Aside0.mk (And.intro (Kd.R_below HO3.out.1 (below_then (below_alloc (Below.refl _ _) _) (by simp) hb)) (Kd.R_below HO3.out.2 (below_then (below_alloc (Below.refl _ _) _) (by simp) hb))); clear hb))
    go_ret3
    exact ⟨_, _, rfl, Kd.R_nil _ _ _ _ _, Kd.R_nil _ _ _ _ _, HB4.out⟩
  | true =>
    by_cases d1 : ct < tt
    · have d1b : decide (ct < tt) = true := decide_eq_true d1
      have H := H.out
      rw [if_neg (by simp; omega)] at H
      injection H with h4 h5; injection h5 with h5 h6
      subst h4; subst h5; subst h6
      clear d1
      go_enter Try.func146, Try.ntmps146
      go_wp2_with (first | (go_at_call 74; (with_reducible refine (hist_Threshold.calls z _ _ HTh.out).mono ?_); rintro e w1 ⟨rfl, hb⟩; have HB1 := Aside0.mk (below_then (below_alloc (Below.refl w.heap.size w) (.cells #[.int .i64 s, .int .u64 z, .int .u64 zc, .int .u64 ct, .int .u64 sm, .slice A5 l5.length c5, .slice A6 l6.length c6, .slice A7 l7.length c7, .slice A8 l8.length c8] 64)) (by simp) hb.below); have HX1 := Aside0.mk (blk_below (blk_new w (.cells #[.int .i64 s, .int .u64 z, .int .u64 zc, .int .u64 ct, .int .u64 sm, .slice A5 l5.length c5, .slice A6 l6.length c6, .slice A7 l7.length c7, .slice A8 l8.length c8] 64)) hb.below); have hf := fun i => blk_cell HX1.out i; clear hb) | (go_at_call 179; (with_reducible refine (hist_side.calls _ _ l5 _ _ l7 p _ _ (Kd.C_below HRA.out.1 HB1.out) HCA.out.1 (Kd.C_below HRA.out.2.2.1 HB1.out) HCA.out.2.2.1 HS5.out).mono ?_); rintro e w2 ⟨v2, rfl, ho2, hb⟩; have HB2 := Aside0.mk (below_then HB1.out HB1.out.size hb); have HX2 := Aside0.mk (blk_below HX1.out hb); have hf2 := fun i => blk_cell HX2.out i; have HO2 := Aside0.mk (Kd.R_mono (ok' := fun k => k < w2.heap.size ∧ w.heap.size ≤ k) (Kd.R_lower (Kd.R_bound ho2) HB1.out.size) (fun k hk => ⟨hk.2.2.1, Nat.le_trans HB1.out.size hk.2.1⟩)); obtain ⟨B2, d2, eo2⟩ := Kd.R_slice ho2; subst eo2; clear ho2 hb) | (go_at_call 179; (with_reducible refine (hist_side.calls _ _ l6 _ _ l8 n _ _ (Kd.C_below HRA.out.2.1 HB2.out) HCA.out.2.1 (Kd.C_below HRA.out.2.2.2 HB2.out) HCA.out.2.2.2 HS6.out).mono ?_); rintro e w3 ⟨v3, rfl, ho3, hb⟩; have HB3 := Aside0.mk (below_then HB2.out HB2.out.size hb); have HX3 := Aside0.mk (blk_below HX2.out hb); have hf3 := fun i => blk_cell HX3.out i; have HO3 := Aside0.mk (And.intro (Kd.R_below HO2.out hb) (Kd.R_mono (ok' := fun k => w2.heap.size ≤ k ∧ w.heap.size ≤ k) (Kd.R_lower (Kd.R_bound ho3) HB2.out.size) (fun k hk => ⟨hk.2.1, Nat.le_trans HB2.out.size hk.2.1⟩))); obtain ⟨B3, d3, eo3⟩ := Kd.R_slice ho3; subst eo3; clear ho3 hb) | (go_at_call 180; refine (hist_total s z zc ct sm _ _ _ _ _ _ _ _ _ _ _ _ w3.heap.size _ [p, n] _ HV.out.1 HV.out.2.1 HV.out.2.2 (by simp) (by simp) (rowsAt_two HO3.out.1 HO3.out.2)).mono ?_; rintro e w4 ⟨rfl, hb⟩; rw [HTot.out]; have HB4 := Aside0.mk (below_then HB3.out HB3.out.size (below_then (below_alloc (Below.refl _ _) _) (by simp) hb)); have HX4 := Aside0.mk (blk_below HX3.out (below_then (below_alloc (Below.refl _ _) _) (by simp) hb)); have hf4 := fun i => blk_cell HX4.out i; have HO4 := Aside0.mk (And.intro (Kd.R_below HO3.out.1 (below_then (below_alloc (Below.refl _ _) _) (by simp) hb)) (Kd.R_below HO3.out.2 (below_then (below_alloc (Below.refl _ _) _) (by simp) hb))); clear hb))
      go_ret3
      exact ⟨_, _, rfl, Kd.R_nil _ _ _ _ _, Kd.R_nil _ _ _ _ _, HB4.out⟩
    have d1b : decide (ct < tt) = false := decide_eq_false d1
    by_cases d2 : tt < ct
    · have d2b : decide (tt < ct) = true := decide_eq_true d2
      cases bn with
      | false =>
        have H := H.out
        rw [if_neg (by simp; omega)] at H
        injection H with h4 h5; injection h5 with h5 h6
        subst h4; subst h5; subst h6
        clear d1 d2
        go_enter Try.func146, Try.ntmps146
        go_wp2_with (first | (go_at_call 74; (with_reducible refine (hist_Threshold.calls z _ _ HTh.out).mono ?_); rintro e w1 ⟨rfl, hb⟩; have HB1 := Aside0.mk (below_then (below_alloc (Below.refl w.heap.size w) (.cells #[.int .i64 s, .int .u64 z, .int .u64 zc, .int .u64 ct, .int .u64 sm, .slice A5 l5.length c5, .slice A6 l6.length c6, .slice A7 l7.length c7, .slice A8 l8.length c8] 64)) (by simp) hb.below); have HX1 := Aside0.mk (blk_below (blk_new w (.cells #[.int .i64 s, .int .u64 z, .int .u64 zc, .int .u64 ct, .int .u64 sm, .slice A5 l5.length c5, .slice A6 l6.length c6, .slice A7 l7.length c7, .slice A8 l8.length c8] 64)) hb.below); have hf := fun i => blk_cell HX1.out i; clear hb) | (go_at_call 179; (with_reducible refine (hist_side.calls _ _ l5 _ _ l7 p _ _ (Kd.C_below HRA.out.1 HB1.out) HCA.out.1 (Kd.C_below HRA.out.2.2.1 HB1.out) HCA.out.2.2.1 HS5.out).mono ?_); rintro e w2 ⟨v2, rfl, ho2, hb⟩; have HB2 := Aside0.mk (below_then HB1.out HB1.out.size hb); have HX2 := Aside0.mk (blk_below HX1.out hb); have hf2 := fun i => blk_cell HX2.out i; have HO2 := Aside0.mk (Kd.R_mono (ok' := fun k => k < w2.heap.size ∧ w.heap.size ≤ k) (Kd.R_lower (Kd.R_bound ho2) HB1.out.size) (fun k hk => ⟨hk.2.2.1, Nat.le_trans HB1.out.size hk.2.1⟩)); obtain ⟨B2, d2, eo2⟩ := Kd.R_slice ho2; subst eo2; clear ho2 hb) | (go_at_call 179; (with_reducible refine (hist_side.calls _ _ l6 _ _ l8 n _ _ (Kd.C_below HRA.out.2.1 HB2.out) HCA.out.2.1 (Kd.C_below HRA.out.2.2.2 HB2.out) HCA.out.2.2.2 HS6.out).mono ?_); rintro e w3 ⟨v3, rfl, ho3, hb⟩; have HB3 := Aside0.mk (below_then HB2.out HB2.out.size hb); have HX3 := Aside0.mk (blk_below HX2.out hb); have hf3 := fun i => blk_cell HX3.out i; have HO3 := Aside0.mk (And.intro (Kd.R_below HO2.out hb) (Kd.R_mono (ok' := fun k => w2.heap.size ≤ k ∧ w.heap.size ≤ k) (Kd.R_lower (Kd.R_bound ho3) HB2.out.size) (fun k hk => ⟨hk.2.1, Nat.le_trans HB2.out.size hk.2.1⟩))); obtain ⟨B3, d3, eo3⟩ := Kd.R_slice ho3; subst eo3; clear ho3 hb) | (go_at_call 180; refine (hist_total s z zc ct sm _ _ _ _ _ _ _ _ _ _ _ _ w3.heap.size _ [p, n] _ HV.out.1 HV.out.2.1 HV.out.2.2 (by simp) (by simp) (rowsAt_two HO3.out.1 HO3.out.2)).mono ?_; rintro e w4 ⟨rfl, hb⟩; rw [HTot.out]; have HB4 := Aside0.mk (below_then HB3.out HB3.out.size (below_then (below_alloc (Below.refl _ _) _) (by simp) hb)); have HX4 := Aside0.mk (blk_below HX3.out (below_then (below_alloc (Below.refl _ _) _) (by simp) hb)); have hf4 := fun i => blk_cell HX4.out i; have HO4 := Aside0.mk (And.intro (Kd.R_below HO3.out.1 (below_then (below_alloc (Below.refl _ _) _) (by simp) hb)) (Kd.R_below HO3.out.2 (below_then (below_alloc (Below.refl _ _) _) (by simp) hb))); clear hb) | (go_at_call 72; (with_reducible refine (hist_NaN.calls sm _ _ HNa.out).mono ?_); rintro e w5 ⟨rfl, hb⟩; have HB5 := Aside0.mk (below_then HB4.out HB4.out.size hb.below); have HX5 := Aside0.mk (blk_below HX4.out hb.below); have hf5 := fun i => blk_cell HX5.out i; have HO5 := Aside0.mk (And.intro (Kd.R_below HO4.out.1 hb.below) (Kd.R_below HO4.out.2 hb.below)); clear hb))
        go_ret3
        exact ⟨_, _, rfl, Kd.R_nil _ _ _ _ _, Kd.R_nil _ _ _ _ _, HB5.out⟩
      | true =>
        have H := H.out
        rw [if_pos (by simp; omega)] at H
        injection H with h4 h5; injection h5 with h5 h6
        subst h4; subst h5; subst h6
        clear d1 d2
        go_enter Try.func146, Try.ntmps146
        go_wp2_with (first | (go_at_call 74; (with_reducible refine (hist_Threshold.calls z _ _ HTh.out).mono ?_); rintro e w1 ⟨rfl, hb⟩; have HB1 := Aside0.mk (below_then (below_alloc (Below.refl w.heap.size w) (.cells #[.int .i64 s, .int .u64 z, .int .u64 zc, .int .u64 ct, .int .u64 sm, .slice A5 l5.length c5, .slice A6 l6.length c6, .slice A7 l7.length c7, .slice A8 l8.length c8] 64)) (by simp) hb.below); have HX1 := Aside0.mk (blk_below (blk_new w (.cells #[.int .i64 s, .int .u64 z, .int .u64 zc, .int .u64 ct, .int .u64 sm, .slice A5 l5.length c5, .slice A6 l6.length c6, .slice A7 l7.length c7, .slice A8 l8.length c8] 64)) hb.below); have hf := fun i => blk_cell HX1.out i; clear hb) | (go_at_call 179; (with_reducible refine (hist_side.calls _ _ l5 _ _ l7 p _ _ (Kd.C_below HRA.out.1 HB1.out) HCA.out.1 (Kd.C_below HRA.out.2.2.1 HB1.out) HCA.out.2.2.1 HS5.out).mono ?_); rintro e w2 ⟨v2, rfl, ho2, hb⟩; have HB2 := Aside0.mk (below_then HB1.out HB1.out.size hb); have HX2 := Aside0.mk (blk_below HX1.out hb); have hf2 := fun i => blk_cell HX2.out i; have HO2 := Aside0.mk (Kd.R_mono (ok' := fun k => k < w2.heap.size ∧ w.heap.size ≤ k) (Kd.R_lower (Kd.R_bound ho2) HB1.out.size) (fun k hk => ⟨hk.2.2.1, Nat.le_trans HB1.out.size hk.2.1⟩)); obtain ⟨B2, d2, eo2⟩ := Kd.R_slice ho2; subst eo2; clear ho2 hb) | (go_at_call 179; (with_reducible refine (hist_side.calls _ _ l6 _ _ l8 n _ _ (Kd.C_below HRA.out.2.1 HB2.out) HCA.out.2.1 (Kd.C_below HRA.out.2.2.2 HB2.out) HCA.out.2.2.2 HS6.out).mono ?_); rintro e w3 ⟨v3, rfl, ho3, hb⟩; have HB3 := Aside0.mk (below_then HB2.out HB2.out.size hb); have HX3 := Aside0.mk (blk_below HX2.out hb); have hf3 := fun i => blk_cell HX3.out i; have HO3 := Aside0.mk (And.intro (Kd.R_below HO2.out hb) (Kd.R_mono (ok' := fun k => w2.heap.size ≤ k ∧ w.heap.size ≤ k) (Kd.R_lower (Kd.R_bound ho3) HB2.out.size) (fun k hk => ⟨hk.2.1, Nat.le_trans HB2.out.size hk.2.1⟩))); obtain ⟨B3, d3, eo3⟩ := Kd.R_slice ho3; subst eo3; clear ho3 hb) | (go_at_call 180; refine (hist_total s z zc ct sm _ _ _ _ _ _ _ _ _ _ _ _ w3.heap.size _ [p, n] _ HV.out.1 HV.out.2.1 HV.out.2.2 (by simp) (by simp) (rowsAt_two HO3.out.1 HO3.out.2)).mono ?_; rintro e w4 ⟨rfl, hb⟩; rw [HTot.out]; have HB4 := Aside0.mk (below_then HB3.out HB3.out.size (below_then (below_alloc (Below.refl _ _) _) (by simp) hb)); have HX4 := Aside0.mk (blk_below HX3.out (below_then (below_alloc (Below.refl _ _) _) (by simp) hb)); have hf4 := fun i => blk_cell HX4.out i; have HO4 := Aside0.mk (And.intro (Kd.R_below HO3.out.1 (below_then (below_alloc (Below.refl _ _) _) (by simp) hb)) (Kd.R_below HO3.out.2 (below_then (below_alloc (Below.refl _ _) _) (by simp) hb))); clear hb) | (go_at_call 72; (with_reducible refine (hist_NaN.calls sm _ _ HNa.out).mono ?_); rintro e w5 ⟨rfl, hb⟩; have HB5 := Aside0.mk (below_then HB4.out HB4.out.size hb.below); have HX5 := Aside0.mk (blk_below HX4.out hb.below); have hf5 := fun i => blk_cell HX5.out i; have HO5 := Aside0.mk (And.intro (Kd.R_below HO4.out.1 hb.below) (Kd.R_below HO4.out.2 hb.below)); clear hb))
        go_ret3
        exact ⟨_, _, rfl, (R_apart_two HO5.out.1 HO5.out.2).1, (R_apart_two HO5.out.1 HO5.out.2).2, HB5.out⟩
    · have d2b : decide (tt < ct) = false := decide_eq_false d2
      have H := H.out
      rw [if_pos (by simp; omega)] at H
      injection H with h4 h5; injection h5 with h5 h6
      subst h4; subst h5; subst h6
      clear d1 d2
      go_enter Try.func146, Try.ntmps146
      go_wp2_with (first | (go_at_call 74; (with_reducible refine (hist_Threshold.calls z _ _ HTh.out).mono ?_); rintro e w1 ⟨rfl, hb⟩; have HB1 := Aside0.mk (below_then (below_alloc (Below.refl w.heap.size w) (.cells #[.int .i64 s, .int .u64 z, .int .u64 zc, .int .u64 ct, .int .u64 sm, .slice A5 l5.length c5, .slice A6 l6.length c6, .slice A7 l7.length c7, .slice A8 l8.length c8] 64)) (by simp) hb.below); have HX1 := Aside0.mk (blk_below (blk_new w (.cells #[.int .i64 s, .int .u64 z, .int .u64 zc, .int .u64 ct, .int .u64 sm, .slice A5 l5.length c5, .slice A6 l6.length c6, .slice A7 l7.length c7, .slice A8 l8.length c8] 64)) hb.below); have hf := fun i => blk_cell HX1.out i; clear hb) | (go_at_call 179; (with_reducible refine (hist_side.calls _ _ l5 _ _ l7 p _ _ (Kd.C_below HRA.out.1 HB1.out) HCA.out.1 (Kd.C_below HRA.out.2.2.1 HB1.out) HCA.out.2.2.1 HS5.out).mono ?_); rintro e w2 ⟨v2, rfl, ho2, hb⟩; have HB2 := Aside0.mk (below_then HB1.out HB1.out.size hb); have HX2 := Aside0.mk (blk_below HX1.out hb); have hf2 := fun i => blk_cell HX2.out i; have HO2 := Aside0.mk (Kd.R_mono (ok' := fun k => k < w2.heap.size ∧ w.heap.size ≤ k) (Kd.R_lower (Kd.R_bound ho2) HB1.out.size) (fun k hk => ⟨hk.2.2.1, Nat.le_trans HB1.out.size hk.2.1⟩)); obtain ⟨B2, d2, eo2⟩ := Kd.R_slice ho2; subst eo2; clear ho2 hb) | (go_at_call 179; (with_reducible refine (hist_side.calls _ _ l6 _ _ l8 n _ _ (Kd.C_below HRA.out.2.1 HB2.out) HCA.out.2.1 (Kd.C_below HRA.out.2.2.2 HB2.out) HCA.out.2.2.2 HS6.out).mono ?_); rintro e w3 ⟨v3, rfl, ho3, hb⟩; have HB3 := Aside0.mk (below_then HB2.out HB2.out.size hb); have HX3 := Aside0.mk (blk_below HX2.out hb); have hf3 := fun i => blk_cell HX3.out i; have HO3 := Aside0.mk (And.intro (Kd.R_below HO2.out hb) (Kd.R_mono (ok' := fun k => w2.heap.size ≤ k ∧ w.heap.size ≤ k) (Kd.R_lower (Kd.R_bound ho3) HB2.out.size) (fun k hk => ⟨hk.2.1, Nat.le_trans HB2.out.size hk.2.1⟩))); obtain ⟨B3, d3, eo3⟩ := Kd.R_slice ho3; subst eo3; clear ho3 hb) | (go_at_call 180; refine (hist_total s z zc ct sm _ _ _ _ _ _ _ _ _ _ _ _ w3.heap.size _ [p, n] _ HV.out.1 HV.out.2.1 HV.out.2.2 (by simp) (by simp) (rowsAt_two HO3.out.1 HO3.out.2)).mono ?_; rintro e w4 ⟨rfl, hb⟩; rw [HTot.out]; have HB4 := Aside0.mk (below_then HB3.out HB3.out.size (below_then (below_alloc (Below.refl _ _) _) (by simp) hb)); have HX4 := Aside0.mk (blk_below HX3.out (below_then (below_alloc (Below.refl _ _) _) (by simp) hb)); have hf4 := fun i => blk_cell HX4.out i; have HO4 := Aside0.mk (And.intro (Kd.R_below HO3.out.1 (below_then (below_alloc (Below.refl _ _) _) (by simp) hb)) (Kd.R_below HO3.out.2 (below_then (below_alloc (Below.refl _ _) _) (by simp) hb))); clear hb))
      go_ret3
      exact ⟨_, _, rfl, (R_apart_two HO4.out.1 HO4.out.2).1, (R_apart_two HO4.out.1 HO4.out.2).2, HB4.out⟩
end Go.Proofs.Ytacgeafjilipdaa.P
namespace Go.Proofs.Ytacgeafjilipdaa.P
set_option linter.unusedVariables false
set_option linter.unusedSimpArgs false
section
variable {α : Type} (key val : α → Int)
def Ups (l : List α) : Prop := l.Pairwise (fun a b => key a < key b)
def look (l : List α) (p : Int) : Int := match l.find? (fun x => decide (key x = p)) with | some x => val x | none => 0
variable {key val}
theorem Ups.nil : Ups key ([] : List α) := List.Pairwise.nil
theorem Ups.tail {x : α} {l : List α} (h : Ups key (x :: l)) : Ups key l := (List.pairwise_cons.1 h).2
theorem Ups.head {x : α} {l : List α} (h : Ups key (x :: l)) : ∀ y ∈ l, key x < key y := (List.pairwise_cons.1 h).1
theorem Ups.filter {l : List α} (p : α → Bool) (h : Ups key l) : Ups key (l.filter p) := List.Pairwise.filter p h
theorem look_cons (x : α) (l : List α) (p : Int) : look key val (x :: l) p = if key x = p then val x else look key val l p := by
  unfold look
  rw [List.find?_cons]
  by_cases h : key x = p
  · simp [h]
  · simp [h]
theorem look_none {l : List α} {p : Int} (h : ∀ x ∈ l, key x ≠ p) : look key val l p = 0 := by
  induction l with
  | nil => rfl
  | cons x l ih => rw [look_cons, if_neg (h x (List.mem_cons_self ..)), ih (fun y hy => h y (List.mem_cons_of_mem _ hy))]
theorem look_or (l : List α) (p : Int) : (∃ x ∈ l, key x = p ∧ look key val l p = val x) ∨ ((∀ x ∈ l, key x ≠ p) ∧ look key val l p = 0) := by
  induction l with
  | nil => exact .inr ⟨fun x hx => (by cases hx), rfl⟩
  | cons y l ih =>
    by_cases h : key y = p
    · exact .inl ⟨y, List.mem_cons_self .., h, by rw [look_cons, if_pos h]⟩
    · rcases ih with ⟨x, hx, h1, h2⟩ | ⟨h1, h2⟩
      · exact .inl ⟨x, List.mem_cons_of_mem _ hx, h1, by rw [look_cons, if_neg h, h2]⟩
      · refine .inr ⟨fun x hx => ?_, by rw [look_cons, if_neg h, h2]⟩
        rcases List.mem_cons.1 hx with rfl | hx
        · exact h
        · exact h1 x hx
theorem Ups.inj {l : List α} (hu : Ups key l) {x y : α} (hx : x ∈ l) (hy : y ∈ l) (h : key x = key y) : x = y := by
  induction l with
  | nil => cases hx
  | cons z l ih =>
    rcases List.mem_cons.1 hx with e1 | hx1
    · rcases List.mem_cons.1 hy with e2 | hy1
      · rw [e1, e2]
      · have := hu.head y hy1; rw [e1] at h; omega
    · rcases List.mem_cons.1 hy with e2 | hy1
      · have := hu.head x hx1; rw [e2] at h; omega
      · exact ih hu.tail hx1 hy1
end
section
variable {β α ρ : Type}
end
section
variable {α : Type} {key val : α → Int}
def dropTo (key : α → Int) (p : Int) : List α → List α
  | [] => []
  | x :: l => if key x < p then dropTo key p l else x :: l
theorem dropTo_look {p q : Int} (hpq : p ≤ q) : ∀ (l : List α), look key val (dropTo key p l) q = look key val l q
  | [] => rfl
  | x :: l => by
    simp only [dropTo]
    by_cases c : key x < p
    · rw [if_pos c, dropTo_look hpq l, look_cons, if_neg (by omega)]
    · rw [if_neg c]
theorem dropTo_ups {p : Int} : ∀ (l : List α), Ups key l → Ups key (dropTo key p l)
  | [], h => h
  | x :: l, h => by
    simp only [dropTo]
    split
    · exact dropTo_ups l h.tail
    · exact h
theorem dropTo_head {p : Int} : ∀ (l : List α), Ups key l → look key val l p = (match dropTo key p l with | [] => 0 | x :: _ => if key x = p then val x else 0)
  | [], _ => rfl
  | x :: l, h => by
    simp only [dropTo]
    by_cases c : key x < p
    · rw [if_pos c, look_cons, if_neg (by omega), dropTo_head l h.tail]
    · rw [if_neg c, look_cons]
      by_cases c2 : key x = p
      · simp only [if_pos c2]
      · simp only [if_neg c2]
        exact look_none (fun y hy => by have := h.head y hy; omega)
end
section
variable {α : Type}
variable {key : α → Int} {join : α → α → α}
end
end Go.Proofs.Ytacgeafjilipdaa.P
namespace Go.Proofs.Ytacgeafjilipdaa.P
open Go.RowKit Go.Shelf Go.Proofs.YtacgeafjilipdaaW.PrintWords Go.Proofs.YtacgeafjilipdaaW.PrintLast Go.Proofs.YtacgeafjilipdaaW.PrintMore
set_option linter.unusedVariables false
set_option linter.unusedSimpArgs false
def SI {α : Type} (d : Kd α) (w : World) (v : Value) (l : List α) : Prop := ∃ A c, v = .slice A l.length c ∧ l.length ≤ c ∧ d.C w A l.length l
theorem SI.below {α : Type} {d : Kd α} {w w' : World} {v : Value} {l : List α} (h : SI d w v l) (hb : Below w.heap.size w w') : SI d w' v l := by
  obtain ⟨A, c, e, h1, h2⟩ := h
  exact ⟨A, c, e, h1, Kd.C_below h2 hb⟩
theorem SI.of {α : Type} {d : Kd α} {w : World} {A : Option Addr} {c : Nat} {l : List α} (h2 : d.C w A l.length l) (h1 : l.length ≤ c) : SI d w (.slice A l.length c) l := ⟨A, c, rfl, h1, h2⟩
theorem SI.of_R {α : Type} {d : Kd α} {e : Nat} {w : World} {base : Nat} {ok : Nat → Prop} {v : Value} {l : List α} (h : d.R e w base ok v l) : SI d w v l := Kd.R_reads h
theorem SI.nil {α : Type} (d : Kd α) (w : World) : SI d w (.slice none 0 0) [] := ⟨none, 0, rfl, Nat.le_refl _, Kd.C_nil d w⟩
abbrev Hi := S64
abbrev kSp := k144
abbrev kPr := k26
def HI (w : World) (v : Value) (h : Hi) : Prop :=
  ∃ v5 v6 v7 v8, v = .agg #[.int .i64 h.f0, .int .u64 h.f1, .int .u64 h.f2, .int .u64 h.f3, .int .u64 h.f4, v5, v6, v7, v8] ∧ SI kSp w v5 h.f5 ∧ SI kSp w v6 h.f6 ∧ SI (Kd.int .i64) w v7 h.f7 ∧ SI (Kd.int .i64) w v8 h.f8
theorem HI.below {w w' : World} {v : Value} {h : Hi} (x : HI w v h) (hb : Below w.heap.size w w') : HI w' v h := by
  obtain ⟨v5, v6, v7, v8, e, h5, h6, h7, h8⟩ := x
  exact ⟨v5, v6, v7, v8, e, h5.below hb, h6.below hb, h7.below hb, h8.below hb⟩
theorem HI.open_ {w : World} {v : Value} {h : Hi} (x : HI w v h) : ∃ A5 c5 A6 c6 A7 c7 A8 c8, v = .agg #[.int .i64 h.f0, .int .u64 h.f1, .int .u64 h.f2, .int .u64 h.f3, .int .u64 h.f4, .slice A5 h.f5.length c5, .slice A6 h.f6.length c6, .slice A7 h.f7.length c7, .slice A8 h.f8.length c8] ∧
    SI kSp w (.slice A5 h.f5.length c5) h.f5 ∧ SI kSp w (.slice A6 h.f6.length c6) h.f6 ∧ SI (Kd.int .i64) w (.slice A7 h.f7.length c7) h.f7 ∧ SI (Kd.int .i64) w (.slice A8 h.f8.length c8) h.f8 := by
  obtain ⟨v5, v6, v7, v8, rfl, h5, h6, h7, h8⟩ := x
  obtain ⟨A5, c5, rfl, h51, h52⟩ := h5
  obtain ⟨A6, c6, rfl, h61, h62⟩ := h6
  obtain ⟨A7, c7, rfl, h71, h72⟩ := h7
  obtain ⟨A8, c8, rfl, h81, h82⟩ := h8
  exact ⟨A5, c5, A6, c6, A7, c7, A8, c8, rfl, .of h52 h51, .of h62 h61, .of h72 h71, .of h82 h81⟩
theorem HI.mk {w : World} {h : Hi} {v5 v6 v7 v8 : Value} (h5 : SI kSp w v5 h.f5) (h6 : SI kSp w v6 h.f6) (h7 : SI (Kd.int .i64) w v7 h.f7) (h8 : SI (Kd.int .i64) w v8 h.f8) :
    HI w (.agg #[.int .i64 h.f0, .int .u64 h.f1, .int .u64 h.f2, .int .u64 h.f3, .int .u64 h.f4, v5, v6, v7, v8]) h := ⟨v5, v6, v7, v8, rfl, h5, h6, h7, h8⟩
def wfH (h : Hi) : Prop := wfHi h.f0 h.f1 h.f2 h.f3 h.f4 h.f5 h.f6 h.f7 h.f8
def openR (h : Hi) : List Pr × List Pr × Int := openRes h.f0 h.f1 h.f2 h.f3 h.f4 h.f5 h.f6 h.f7 h.f8
def checkR (h : Hi) : Int := (openR h).2.2
theorem open_c (h : Hi) (hw : wfH h) (w : World) (v : Value) (hv : HI w v h) : Calls Try.prog 146 #[v] w fun e w' =>
    ∃ v0 v1 : Value, e = .returned (.tuple #[v0, v1, .int .i64 (openR h).2.2]) ∧ SI kPr w' v0 (openR h).1 ∧ SI kPr w' v1 (openR h).2.1 ∧ Below w.heap.size w w' := by
  obtain ⟨A5, c5, A6, c6, A7, c7, A8, c8, rfl, ⟨_, _, e5, h51, h52⟩, ⟨_, _, e6, h61, h62⟩, ⟨_, _, e7, h71, h72⟩, ⟨_, _, e8, h81, h82⟩⟩ := hv.open_
  cases e5; cases e6; cases e7; cases e8
  refine (hist_open.calls h.f0 h.f1 h.f2 h.f3 h.f4 A5 c5 h.f5 A6 c6 h.f6 A7 c7 h.f7 A8 c8 h.f8 (openR h).1 (openR h).2.1 (openR h).2.2 w h52 h51 h62 h61 h72 h71 h82 h81 (if_pos hw)).mono ?_
  rintro e w1 ⟨v0, v1, rfl, h0, h1, hb⟩
  exact ⟨v0, v1, rfl, .of_R h0, .of_R h1, hb⟩
set_option maxHeartbeats 4000000 in
set_option maxRecDepth 100000 in
theorem check_c (h : Hi) (hw : wfH h) (w : World) (v : Value) (hv : HI w v h) : Calls Try.prog 67 #[v] w fun e w' =>
    e = .returned (.int .i64 (checkR h)) ∧ Below w.heap.size w w' := by
  have hu := Try.underlying64
  obtain ⟨A5, c5, A6, c6, A7, c7, A8, c8, e, -⟩ := hv.open_
  subst e
  have HV := Aside0.mk hv
  have HW := Aside0.mk hw
  clear hv hw
  go_enter Try.func67, Try.ntmps67
  go_wp2_with (go_at_call 146; (with_reducible refine (open_c h HW.out _ _ (HV.out.below (below_alloc (Below.refl _ _) _))).mono ?_); rintro e w1 ⟨v0, v1, rfl, h0, h1, hb⟩; have HB := Aside0.mk (below_then (below_alloc (Below.refl w.heap.size w) _) (by simp) hb); clear h0 h1 hb)
  go_ret
  exact ⟨rfl, HB.out⟩
def pairsR (h : Hi) (side : Int) : List Pr × Int := if side = 0 then ((openR h).1, (openR h).2.2) else if side = 1 then ((openR h).2.1, (openR h).2.2) else ([], 11)
end Go.Proofs.Ytacgeafjilipdaa.P
namespace Go.Proofs.Ytacgeafjilipdaa.P
open Go.RowKit Go.Shelf Go.Proofs.YtacgeafjilipdaaW.PrintWords Go.Proofs.YtacgeafjilipdaaW.PrintLast Go.Proofs.YtacgeafjilipdaaW.PrintMore
set_option linter.unusedVariables false
set_option linter.unusedSimpArgs false
def KA (base : Nat) (w w' : World) : Prop := w.heap.size ≤ w'.heap.size ∧ ∀ k, base ≤ k → k < w.heap.size → w'.heap[k]? = w.heap[k]?
theorem KA.refl (base : Nat) (w : World) : KA base w w := ⟨Nat.le_refl _, fun _ _ _ => rfl⟩
theorem KA.trans {base : Nat} {a b c : World} (h : KA base a b) (k : KA base b c) : KA base a c := ⟨Nat.le_trans h.1 k.1, fun i h0 h1 => (k.2 i h0 (Nat.lt_of_lt_of_le h1 h.1)).trans (h.2 i h0 h1)⟩
theorem KA.below {base : Nat} {w w' : World} (h : Below w.heap.size w w') : KA base w w' := ⟨h.size, fun k _ h1 => h.block k h1⟩
theorem KA.set {base b i : Nat} (w : World) (hb : b < base) (u : Value) : KA base w (w.setCell ⟨b, i, none⟩ u) := ⟨by simp [World.setCell], fun k h0 _ => Below.heap_setCell w ⟨b, i, none⟩ u k (by show k ≠ b; omega)⟩
def FI {α : Type} (d : Kd α) (base : Nat) (w : World) (v : Value) (l : List α) : Prop := ∀ w', KA base w w' → SI d w' v l
theorem FI.now {α : Type} {d : Kd α} {base : Nat} {w : World} {v : Value} {l : List α} (h : FI d base w v l) : SI d w v l := h w (KA.refl _ _)
theorem FI.at_ {α : Type} {d : Kd α} {base : Nat} {w w' : World} {v : Value} {l : List α} (h : FI d base w v l) (k : KA base w w') : SI d w' v l := h w' k
theorem FI.step {α : Type} {d : Kd α} {base : Nat} {w w' : World} {v : Value} {l : List α} (h : FI d base w v l) (k : KA base w w') : FI d base w' v l := fun w2 h2 => h w2 (k.trans h2)
theorem FI.of_R {α : Type} {d : Kd α} {e : Nat} {w : World} {base b : Nat} {ok : Nat → Prop} {v : Value} {l : List α} (h : d.R e w b ok v l) (hb : base ≤ b) : FI d base w v l := fun w' hk =>
  .of_R (Kd.R_step (Kd.R_bound h) (fun k ho hlt => hk.2 k (Nat.le_trans hb ho.2.1) hlt))
theorem FI.slice {α : Type} {d : Kd α} {base : Nat} {w : World} {v : Value} {l : List α} (h : FI d base w v l) : ∃ A c, v = .slice A l.length c := by obtain ⟨A, c, e, _⟩ := h.now; exact ⟨A, c, e⟩
set_option maxHeartbeats 1000000 in
theorem nine {W : World} {g : Nat} {t : TypeId} {a0 a1 a2 a3 a4 a5 a6 a7 a8 : Value} (h : W.heap[g]? = some (.cells #[a0, a1, a2, a3, a4, a5, a6, a7, a8] t (0, 0))) (v0 v1 v2 v3 v4 v5 v6 v7 v8 : Value) :
    (((((((((W.setCell ⟨g, 0, none⟩ v0).setCell ⟨g, 1, none⟩ v1).setCell ⟨g, 2, none⟩ v2).setCell ⟨g, 3, none⟩ v3).setCell ⟨g, 4, none⟩ v4).setCell ⟨g, 5, none⟩ v5).setCell ⟨g, 6, none⟩ v6).setCell ⟨g, 7, none⟩ v7).setCell ⟨g, 8, none⟩ v8).heap[g]? = some (.cells #[v0, v1, v2, v3, v4, v5, v6, v7, v8] t (0, 0)) := by
  refine blk_put (cs := #[v0, v1, v2, v3, v4, v5, v6, v7, a8]) ?_ 8 _ rfl
  refine blk_put (cs := #[v0, v1, v2, v3, v4, v5, v6, a7, a8]) ?_ 7 _ rfl
  refine blk_put (cs := #[v0, v1, v2, v3, v4, v5, a6, a7, a8]) ?_ 6 _ rfl
  refine blk_put (cs := #[v0, v1, v2, v3, v4, a5, a6, a7, a8]) ?_ 5 _ rfl
  refine blk_put (cs := #[v0, v1, v2, v3, a4, a5, a6, a7, a8]) ?_ 4 _ rfl
  refine blk_put (cs := #[v0, v1, v2, a3, a4, a5, a6, a7, a8]) ?_ 3 _ rfl
  refine blk_put (cs := #[v0, v1, a2, a3, a4, a5, a6, a7, a8]) ?_ 2 _ rfl
  refine blk_put (cs := #[v0, a1, a2, a3, a4, a5, a6, a7, a8]) ?_ 1 _ rfl
  refine blk_put (cs := #[a0, a1, a2, a3, a4, a5, a6, a7, a8]) ?_ 0 _ rfl
  exact h
theorem FI.lower {α : Type} {d : Kd α} {base b : Nat} {w : World} {v : Value} {l : List α} (h : FI d b w v l) (hb : base ≤ b) : FI d base w v l := fun w' k => h w' ⟨k.1, fun i h0 h1 => k.2 i (Nat.le_trans hb h0) h1⟩
theorem belowS {B : Nat} {w W : World} {g i j : Nat} {u u' : Value} (_ : w.heap.size ≤ W.heap.size) (h : Below B w W) (hg : B ≤ g := by exact Nat.le_refl _) : Below B w ((W.setCell ⟨g, i, none⟩ u).setCell ⟨g, j, none⟩ u') := (h.setCell (p := ⟨g, i, none⟩) hg u).setCell (p := ⟨g, j, none⟩) hg u'
theorem nine_below {B : Nat} {w W : World} {g : Nat} (h : Below B w W) (hg : B ≤ g) (v0 v1 v2 v3 v4 v5 v6 v7 v8 : Value) :
    Below B w (((((((((W.setCell ⟨g, 0, none⟩ v0).setCell ⟨g, 1, none⟩ v1).setCell ⟨g, 2, none⟩ v2).setCell ⟨g, 3, none⟩ v3).setCell ⟨g, 4, none⟩ v4).setCell ⟨g, 5, none⟩ v5).setCell ⟨g, 6, none⟩ v6).setCell ⟨g, 7, none⟩ v7).setCell ⟨g, 8, none⟩ v8) :=
  (((((((((h.setCell (p := ⟨g, 0, none⟩) hg v0).setCell (p := ⟨g, 1, none⟩) hg v1).setCell (p := ⟨g, 2, none⟩) hg v2).setCell (p := ⟨g, 3, none⟩) hg v3).setCell (p := ⟨g, 4, none⟩) hg v4).setCell (p := ⟨g, 5, none⟩) hg v5).setCell (p := ⟨g, 6, none⟩) hg v6).setCell (p := ⟨g, 7, none⟩) hg v7).setCell (p := ⟨g, 8, none⟩) hg v8)
theorem nine_ka {base : Nat} {w W : World} {g : Nat} (h : KA base w W) (hg : g < base) (v0 v1 v2 v3 v4 v5 v6 v7 v8 : Value) :
    KA base w (((((((((W.setCell ⟨g, 0, none⟩ v0).setCell ⟨g, 1, none⟩ v1).setCell ⟨g, 2, none⟩ v2).setCell ⟨g, 3, none⟩ v3).setCell ⟨g, 4, none⟩ v4).setCell ⟨g, 5, none⟩ v5).setCell ⟨g, 6, none⟩ v6).setCell ⟨g, 7, none⟩ v7).setCell ⟨g, 8, none⟩ v8) :=
  h.trans (((((((((KA.set _ hg _).trans (KA.set _ hg _)).trans (KA.set _ hg _)).trans (KA.set _ hg _)).trans (KA.set _ hg _)).trans (KA.set _ hg _)).trans (KA.set _ hg _)).trans (KA.set _ hg _)).trans (KA.set _ hg _))
def layR (l : List Pr) : List Sp × List Int × Int := if (unzipRes l).2.2 ≠ 0 then ([], [], (unzipRes l).2.2) else match diffsFrom 0 (l.map (·.f1)) with | none => ([], [], 28) | some d => ((unzipRes l).1, d, 0)
def wfRow (l : List Pr) : Prop := wfPrs l ∧ l.length < 4398046511104
theorem lay_eq (l : List Pr) (hw : wfRow l) (k : Nat) (hk : 3 * l.length + 1 < k) : hist_lay.f k l = some (layR l) := by
  unfold hist_lay.f layR
  rw [unzip_eq l hw.1 hw.2 k hk]
  simp only [Option.bind_some]
  by_cases h : (unzipRes l).2.2 = 0
  · rw [if_pos h, if_neg (by simp [h])]
    have h1 : (unzipRes l).2.1 = l.map (·.f1) := by
      unfold unzipRes at h ⊢
      split
      · rfl
      · rename_i hc; rw [if_neg hc] at h; exact absurd h hc
    rw [h1, deltas_eq _ (by intro x hx; obtain ⟨s, hs, rfl⟩ := List.mem_map.1 hx; exact (hw.1 s hs).2) (by simp; have := hw.2; omega) k (by simp; omega)]
    cases diffsFrom 0 (l.map (·.f1)) with
    | none => simp
    | some d => simp
  · rw [if_neg h, if_pos h]
theorem lay_c (l : List Pr) (hw : wfRow l) (w : World) (v : Value) (hv : SI kPr w v l) : Calls Try.prog 152 #[v] w fun e w' =>
    ∃ v0 v1 : Value, e = .returned (.tuple #[v0, v1, .int .i64 (layR l).2.2]) ∧ FI kSp w.heap.size w' v0 (layR l).1 ∧ FI (Kd.int .i64) w.heap.size w' v1 (layR l).2.1 ∧ Below w.heap.size w w' := by
  obtain ⟨A, c, rfl, hc, hr⟩ := hv
  refine (hist_lay.calls (3 * l.length + 2) A c l (layR l).1 (layR l).2.1 (layR l).2.2 w hr hc (lay_eq l hw _ (by omega))).mono ?_
  rintro e w1 ⟨v0, v1, rfl, h0, h1, hb⟩
  exact ⟨v0, v1, rfl, .of_R h0 (Nat.le_refl _), .of_R h1 (Nat.le_refl _), hb⟩
theorem layR_wf {l : List Pr} (hw : wfRow l) : wfSps (layR l).1 ∧ i64s (layR l).2.1 ∧ (layR l).2.1.length < 4398046511104 := by
  unfold layR
  by_cases h : (unzipRes l).2.2 = 0
  · rw [if_neg (by simp [h])]
    cases hd : diffsFrom 0 (l.map (·.f1)) with
    | none => exact ⟨fun s hs => by simp at hs, fun s hs => by simp at hs, by simp⟩
    | some d =>
      have h0 : (fromRes (l.map (·.f0))).2 = 0 := by
        unfold unzipRes at h
        by_cases hc : (fromRes (l.map (·.f0))).2 = 0
        · exact hc
        · rw [if_neg hc] at h; exact absurd h hc
      have h1 : (unzipRes l).1 = (fromRes (l.map (·.f0))).1 := by unfold unzipRes; rw [if_pos h0]
      obtain ⟨hr, hl, hl2, he⟩ := fromRes_ok h0
      have hdl : ∀ (l : List Int) (a : Int) (o : List Int), diffsFrom a l = some o → o.length = l.length ∧ ∀ x ∈ o, i64 x := by
        intro l
        induction l with
        | nil => intro a o h; cases h; exact ⟨rfl, fun x hx => by simp at hx⟩
        | cons x l ih =>
          intro a o h
          simp only [diffsFrom] at h
          split at h
          · rename_i hx
            cases hq : diffsFrom x l with
            | none => rw [hq] at h; simp at h
            | some o' =>
              rw [hq] at h; simp at h; subst h
              obtain ⟨i1, i2⟩ := ih x o' hq
              refine ⟨by simp [i1], fun y hy => ?_⟩
              rcases List.mem_cons.1 hy with rfl | hy
              · exact hx
              · exact i2 y hy
          · cases h
      obtain ⟨i1, i2⟩ := hdl _ _ _ hd
      have := hw.2
      refine ⟨by rw [h1, he]; exact spansOf_wf hr hl, i2, by simp only; rw [i1]; simpa using this⟩
  · rw [if_pos h]; exact ⟨fun s hs => by simp at hs, fun s hs => by simp at hs, by simp⟩
def madeH (h : Hi) (p n : List Pr) : Hi := ⟨h.f0, h.f1, h.f2, h.f3, h.f4, (layR p).1, (layR n).1, (layR p).2.1, (layR n).2.1⟩
def emptyH : Hi := ⟨0, 0, 0, 0, 0, [], [], [], []⟩
def makeR (h : Hi) (p n : List Pr) : Hi × Int := if (layR p).2.2 ≠ 0 then (emptyH, (layR p).2.2) else if (layR n).2.2 ≠ 0 then (emptyH, (layR n).2.2) else if checkR (madeH h p n) ≠ 0 then (emptyH, checkR (madeH h p n)) else (madeH h p n, 0)
theorem madeH_wf {h : Hi} {p n : List Pr} (hw : wfH h) (hp : wfRow p) (hn : wfRow n) : wfH (madeH h p n) := by
  obtain ⟨a0, a1, a2, a3, a4, -⟩ := hw
  exact ⟨a0, a1, a2, a3, a4, (layR_wf hp).1, (layR_wf hn).1, (layR_wf hp).2.1, (layR_wf hn).2.1, (layR_wf hp).2.2, (layR_wf hn).2.2⟩
def HF (base : Nat) (w : World) (v : Value) (h : Hi) : Prop :=
  ∃ v5 v6 v7 v8, v = .agg #[.int .i64 h.f0, .int .u64 h.f1, .int .u64 h.f2, .int .u64 h.f3, .int .u64 h.f4, v5, v6, v7, v8] ∧ FI kSp base w v5 h.f5 ∧ FI kSp base w v6 h.f6 ∧ FI (Kd.int .i64) base w v7 h.f7 ∧ FI (Kd.int .i64) base w v8 h.f8
theorem HF.now {base : Nat} {w : World} {v : Value} {h : Hi} (x : HF base w v h) : HI w v h := by
  obtain ⟨v5, v6, v7, v8, e, h5, h6, h7, h8⟩ := x
  exact ⟨v5, v6, v7, v8, e, h5.now, h6.now, h7.now, h8.now⟩
theorem HF.step {base : Nat} {w w' : World} {v : Value} {h : Hi} (x : HF base w v h) (k : KA base w w') : HF base w' v h := by
  obtain ⟨v5, v6, v7, v8, e, h5, h6, h7, h8⟩ := x
  exact ⟨v5, v6, v7, v8, e, h5.step k, h6.step k, h7.step k, h8.step k⟩
theorem HF.lower {base b : Nat} {w : World} {v : Value} {h : Hi} (x : HF b w v h) (hb : base ≤ b) : HF base w v h := by
  obtain ⟨v5, v6, v7, v8, e, h5, h6, h7, h8⟩ := x
  exact ⟨v5, v6, v7, v8, e, h5.lower hb, h6.lower hb, h7.lower hb, h8.lower hb⟩
theorem HF.mk {base : Nat} {w : World} {h : Hi} {v5 v6 v7 v8 : Value} (h5 : FI kSp base w v5 h.f5) (h6 : FI kSp base w v6 h.f6) (h7 : FI (Kd.int .i64) base w v7 h.f7) (h8 : FI (Kd.int .i64) base w v8 h.f8) :
    HF base w (.agg #[.int .i64 h.f0, .int .u64 h.f1, .int .u64 h.f2, .int .u64 h.f3, .int .u64 h.f4, v5, v6, v7, v8]) h := ⟨v5, v6, v7, v8, rfl, h5, h6, h7, h8⟩
theorem HF.empty (base : Nat) (w : World) : HF base w (.agg #[.int .i64 0, .int .u64 0, .int .u64 0, .int .u64 0, .int .u64 0, .slice none 0 0, .slice none 0 0, .slice none 0 0, .slice none 0 0]) emptyH :=
  HF.mk (h := emptyH) (fun w _ => SI.nil _ w) (fun w _ => SI.nil _ w) (fun w _ => SI.nil _ w) (fun w _ => SI.nil _ w)
theorem HF.open_ {base : Nat} {w : World} {v : Value} {h : Hi} (x : HF base w v h) : ∃ A5 c5 A6 c6 A7 c7 A8 c8, v = .agg #[.int .i64 h.f0, .int .u64 h.f1, .int .u64 h.f2, .int .u64 h.f3, .int .u64 h.f4, .slice A5 h.f5.length c5, .slice A6 h.f6.length c6, .slice A7 h.f7.length c7, .slice A8 h.f8.length c8] := by
  obtain ⟨A5, c5, A6, c6, A7, c7, A8, c8, e, -⟩ := x.now.open_
  exact ⟨A5, c5, A6, c6, A7, c7, A8, c8, e⟩
set_option maxHeartbeats 8000000 in
set_option maxRecDepth 100000 in
theorem make_n (h : Hi) (p n : List Pr) (hw : wfH (madeH h p n)) (hp : wfRow p) (hn : wfRow n) (w : World) (v vp vn : Value) (hv : HI w v h) (hvp : SI kPr w vp p) (hvn : SI kPr w vn n) : Calls Try.prog 87 #[v, vp, vn] w fun e w' =>
    ∃ v', e = .returned (.tuple #[v', .int .i64 (makeR h p n).2]) ∧ HF w.heap.size w' v' (makeR h p n).1 ∧ Below w.heap.size w w' := by
  have hu := Try.underlying64
  obtain ⟨A5, c5, A6, c6, A7, c7, A8, c8, e, -⟩ := hv.open_
  subst e
  have HP := Aside0.mk hvp
  have HN := Aside0.mk hvn
  have HW := Aside0.mk hw
  have HC1 := fun w hv => lay_c p hp w vp hv
  have HC2 := fun w hv => lay_c n hn w vn hv
  clear hv hvp hvn hw hp hn
  unfold makeR madeH at *
  generalize layR p = lp at *
  generalize layR n = ln at *
  obtain ⟨sp, dp, ep⟩ := lp
  obtain ⟨sn, dn, en⟩ := ln
  simp only at HW HC1 HC2 ⊢
  replace HC1 := Aside0.mk HC1
  replace HC2 := Aside0.mk HC2
  by_cases c1 : ep = 0
  rotate_left
  · rw [if_pos c1]
    have c1a : (ep != 0) = true := bne_iff_ne.2 c1
    clear c1
    go_enter Try.func87, Try.ntmps87
    go_wp2_with (first | (go_at_call 152; (with_reducible refine (HC1.out _ (HP.out.below (below_alloc (below_alloc (Below.refl _ _) _) _))).mono ?_); rintro e w1 ⟨v0, v1, rfl, h0, h1, hb⟩; obtain ⟨B0, d0, rfl⟩ := h0.slice; obtain ⟨B1, d1, rfl⟩ := h1.slice; have HF0 := Aside0.mk (show FI kSp (w.heap.size + 1 + 1) w1 (.slice B0 sp.length d0) sp by simpa using h0); have HF1 := Aside0.mk (show FI (Kd.int .i64) (w.heap.size + 1 + 1) w1 (.slice B1 dp.length d1) dp by simpa using h1); have HB1 := Aside0.mk (below_then (below_alloc (below_alloc (Below.refl w.heap.size w) (.cells #[.int .i64 h.f0, .int .u64 h.f1, .int .u64 h.f2, .int .u64 h.f3, .int .u64 h.f4, .slice A5 h.f5.length c5, .slice A6 h.f6.length c6, .slice A7 h.f7.length c7, .slice A8 h.f8.length c8] 64)) (.cells #[.int .i64 0, .int .u64 0, .int .u64 0, .int .u64 0, .int .u64 0, .slice none 0 0, .slice none 0 0, .slice none 0 0, .slice none 0 0] 64)) (by simp; omega) hb); have HX1 := Aside0.mk (blk_below (blk_alloc (blk_new w (.cells #[.int .i64 h.f0, .int .u64 h.f1, .int .u64 h.f2, .int .u64 h.f3, .int .u64 h.f4, .slice A5 h.f5.length c5, .slice A6 h.f6.length c6, .slice A7 h.f7.length c7, .slice A8 h.f8.length c8] 64)) (.cells #[.int .i64 0, .int .u64 0, .int .u64 0, .int .u64 0, .int .u64 0, .slice none 0 0, .slice none 0 0, .slice none 0 0, .slice none 0 0] 64)) hb); have HY1 := Aside0.mk (show w1.heap[w.heap.size + 1]? = some (.cells #[.int .i64 0, .int .u64 0, .int .u64 0, .int .u64 0, .int .u64 0, .slice none 0 0, .slice none 0 0, .slice none 0 0, .slice none 0 0] 64 (0, 0)) from (blk_below (show ((w.alloc (.cells #[.int .i64 h.f0, .int .u64 h.f1, .int .u64 h.f2, .int .u64 h.f3, .int .u64 h.f4, .slice A5 h.f5.length c5, .slice A6 h.f6.length c6, .slice A7 h.f7.length c7, .slice A8 h.f8.length c8] 64)).alloc (.cells #[.int .i64 0, .int .u64 0, .int .u64 0, .int .u64 0, .int .u64 0, .slice none 0 0, .slice none 0 0, .slice none 0 0, .slice none 0 0] 64)).heap[w.heap.size + 1]? = _ by simpa using blk_new (w.alloc (.cells #[.int .i64 h.f0, .int .u64 h.f1, .int .u64 h.f2, .int .u64 h.f3, .int .u64 h.f4, .slice A5 h.f5.length c5, .slice A6 h.f6.length c6, .slice A7 h.f7.length c7, .slice A8 h.f8.length c8] 64)) (.cells #[.int .i64 0, .int .u64 0, .int .u64 0, .int .u64 0, .int .u64 0, .slice none 0 0, .slice none 0 0, .slice none 0 0, .slice none 0 0] 64)) hb)); have hfx := fun i => blk_cell HX1.out i; have hzx := fun i => blk_frozen HX1.out i; have hfy := fun i => blk_cell HY1.out i; have hzy := fun i => blk_frozen HY1.out i; clear h0 h1 hb))
    refine bodyPost_ret (results_ct rfl _ _ (w.heap.size + 1) 64 #[.int .i64 0, .int .u64 0, .int .u64 0, .int .u64 0, .int .u64 0, .slice none 0 0, .slice none 0 0, .slice none 0 0, .slice none 0 0] (0, 0) _ rfl (nine (blk_far (blk_far HY1.out (by show w.heap.size + 1 ≠ w.heap.size; omega) _) (by show w.heap.size + 1 ≠ w.heap.size; omega) _) _ _ _ _ _ _ _ _ _) Try.underlying64 rfl (by kernel_rfl)) rfl ?_
    exact ⟨_, rfl, HF.empty _ _, nine_below (belowS HB1.out.size HB1.out) (by omega) _ _ _ _ _ _ _ _ _⟩
  subst c1
  rw [if_neg (by simp)]
  by_cases c2 : en = 0
  rotate_left
  · rw [if_pos c2]
    have c2a : (en != 0) = true := bne_iff_ne.2 c2
    clear c2
    go_enter Try.func87, Try.ntmps87
    go_wp2_with (first | (go_at_call 152; (with_reducible refine (HC1.out _ (HP.out.below (below_alloc (below_alloc (Below.refl _ _) _) _))).mono ?_); rintro e w1 ⟨v0, v1, rfl, h0, h1, hb⟩; obtain ⟨B0, d0, rfl⟩ := h0.slice; obtain ⟨B1, d1, rfl⟩ := h1.slice; have HF0 := Aside0.mk (show FI kSp (w.heap.size + 1 + 1) w1 (.slice B0 sp.length d0) sp by simpa using h0); have HF1 := Aside0.mk (show FI (Kd.int .i64) (w.heap.size + 1 + 1) w1 (.slice B1 dp.length d1) dp by simpa using h1); have HB1 := Aside0.mk (below_then (below_alloc (below_alloc (Below.refl w.heap.size w) (.cells #[.int .i64 h.f0, .int .u64 h.f1, .int .u64 h.f2, .int .u64 h.f3, .int .u64 h.f4, .slice A5 h.f5.length c5, .slice A6 h.f6.length c6, .slice A7 h.f7.length c7, .slice A8 h.f8.length c8] 64)) (.cells #[.int .i64 0, .int .u64 0, .int .u64 0, .int .u64 0, .int .u64 0, .slice none 0 0, .slice none 0 0, .slice none 0 0, .slice none 0 0] 64)) (by simp; omega) hb); have HX1 := Aside0.mk (blk_below (blk_alloc (blk_new w (.cells #[.int .i64 h.f0, .int .u64 h.f1, .int .u64 h.f2, .int .u64 h.f3, .int .u64 h.f4, .slice A5 h.f5.length c5, .slice A6 h.f6.length c6, .slice A7 h.f7.length c7, .slice A8 h.f8.length c8] 64)) (.cells #[.int .i64 0, .int .u64 0, .int .u64 0, .int .u64 0, .int .u64 0, .slice none 0 0, .slice none 0 0, .slice none 0 0, .slice none 0 0] 64)) hb); have HY1 := Aside0.mk (show w1.heap[w.heap.size + 1]? = some (.cells #[.int .i64 0, .int .u64 0, .int .u64 0, .int .u64 0, .int .u64 0, .slice none 0 0, .slice none 0 0, .slice none 0 0, .slice none 0 0] 64 (0, 0)) from (blk_below (show ((w.alloc (.cells #[.int .i64 h.f0, .int .u64 h.f1, .int .u64 h.f2, .int .u64 h.f3, .int .u64 h.f4, .slice A5 h.f5.length c5, .slice A6 h.f6.length c6, .slice A7 h.f7.length c7, .slice A8 h.f8.length c8] 64)).alloc (.cells #[.int .i64 0, .int .u64 0, .int .u64 0, .int .u64 0, .int .u64 0, .slice none 0 0, .slice none 0 0, .slice none 0 0, .slice none 0 0] 64)).heap[w.heap.size + 1]? = _ by simpa using blk_new (w.alloc (.cells #[.int .i64 h.f0, .int .u64 h.f1, .int .u64 h.f2, .int .u64 h.f3, .int .u64 h.f4, .slice A5 h.f5.length c5, .slice A6 h.f6.length c6, .slice A7 h.f7.length c7, .slice A8 h.f8.length c8] 64)) (.cells #[.int .i64 0, .int .u64 0, .int .u64 0, .int .u64 0, .int .u64 0, .slice none 0 0, .slice none 0 0, .slice none 0 0, .slice none 0 0] 64)) hb)); have hfx := fun i => blk_cell HX1.out i; have hzx := fun i => blk_frozen HX1.out i; have hfy := fun i => blk_cell HY1.out i; have hzy := fun i => blk_frozen HY1.out i; clear h0 h1 hb) | (go_at_call 152; (with_reducible refine (HC2.out _ (HN.out.below (belowS (HB1.out.size) HB1.out))).mono ?_); rintro e w3 ⟨v2, v3, rfl, h2, h3, hb⟩; obtain ⟨B2, d2, rfl⟩ := h2.slice; obtain ⟨B3, d3, rfl⟩ := h3.slice; have HS2 := Aside0.mk (show w.heap.size + 1 + 1 ≤ w1.heap.size from by have := blk_lt HY1.out; omega); have HF2 := Aside0.mk (show FI kSp (w.heap.size + 1 + 1) w3 (.slice B2 sn.length d2) sn from FI.lower h2 (by have := HS2.out; simpa [World.setCell] using this)); have HF3 := Aside0.mk (show FI (Kd.int .i64) (w.heap.size + 1 + 1) w3 (.slice B3 dn.length d3) dn from FI.lower h3 (by have := HS2.out; simpa [World.setCell] using this)); have HK3 := Aside0.mk (show KA (w.heap.size + 1 + 1) w1 w3 from ((KA.set _ (by omega) _).trans (KA.set _ (by omega) _)).trans (KA.below hb)); have HB3 := Aside0.mk (below_then (belowS (HB1.out.size) HB1.out) (by have := HB1.out.size; simpa [World.setCell] using this) hb); have HX3 := Aside0.mk (blk_below (show ((w1.setCell ⟨w.heap.size, 5, none⟩ (.slice B0 sp.length d0)).setCell ⟨w.heap.size, 7, none⟩ (.slice B1 dp.length d1)).heap[w.heap.size]? = some (.cells #[.int .i64 h.f0, .int .u64 h.f1, .int .u64 h.f2, .int .u64 h.f3, .int .u64 h.f4, .slice B0 sp.length d0, .slice A6 h.f6.length c6, .slice B1 dp.length d1, .slice A8 h.f8.length c8] 64 (0, 0)) from blk_put (blk_put HX1.out 5 _ rfl) 7 _ rfl) hb); have HY3 := Aside0.mk (blk_below (show ((w1.setCell ⟨w.heap.size, 5, none⟩ (.slice B0 sp.length d0)).setCell ⟨w.heap.size, 7, none⟩ (.slice B1 dp.length d1)).heap[w.heap.size + 1]? = some (.cells #[.int .i64 0, .int .u64 0, .int .u64 0, .int .u64 0, .int .u64 0, .slice none 0 0, .slice none 0 0, .slice none 0 0, .slice none 0 0] 64 (0, 0)) from blk_far (blk_far HY1.out (by show w.heap.size + 1 ≠ w.heap.size; omega) _) (by show w.heap.size + 1 ≠ w.heap.size; omega) _) hb); clear hfx hzx hfy hzy; have hfx := fun i => blk_cell HX3.out i; have hzx := fun i => blk_frozen HX3.out i; have hfy := fun i => blk_cell HY3.out i; have hzy := fun i => blk_frozen HY3.out i; clear h2 h3 hb))
    refine bodyPost_ret (results_ct rfl _ _ (w.heap.size + 1) 64 #[.int .i64 0, .int .u64 0, .int .u64 0, .int .u64 0, .int .u64 0, .slice none 0 0, .slice none 0 0, .slice none 0 0, .slice none 0 0] (0, 0) _ rfl (nine (blk_far (blk_far HY3.out (by show w.heap.size + 1 ≠ w.heap.size; omega) _) (by show w.heap.size + 1 ≠ w.heap.size; omega) _) _ _ _ _ _ _ _ _ _) Try.underlying64 rfl (by kernel_rfl)) rfl ?_
    exact ⟨_, rfl, HF.empty _ _, nine_below (belowS HB3.out.size HB3.out) (by omega) _ _ _ _ _ _ _ _ _⟩
  subst c2
  rw [if_neg (by simp)]
  have hck : ∀ w v5 v6 v7 v8, SI kSp w v5 sp → SI kSp w v6 sn → SI (Kd.int .i64) w v7 dp → SI (Kd.int .i64) w v8 dn → Calls Try.prog 67 #[.agg #[.int .i64 h.f0, .int .u64 h.f1, .int .u64 h.f2, .int .u64 h.f3, .int .u64 h.f4, v5, v6, v7, v8]] w fun e w' => e = .returned (.int .i64 (checkR ⟨h.f0, h.f1, h.f2, h.f3, h.f4, sp, sn, dp, dn⟩)) ∧ Below w.heap.size w w' :=
    fun w v5 v6 v7 v8 h5 h6 h7 h8 => check_c _ HW.out w _ (HI.mk (h := ⟨h.f0, h.f1, h.f2, h.f3, h.f4, sp, sn, dp, dn⟩) h5 h6 h7 h8)
  generalize checkR ⟨h.f0, h.f1, h.f2, h.f3, h.f4, sp, sn, dp, dn⟩ = ec at hck ⊢
  have HCK := Aside0.mk hck
  clear hck
  by_cases c3 : ec = 0
  rotate_left
  · rw [if_pos c3]
    have c3a : (ec != 0) = true := bne_iff_ne.2 c3
    clear c3
    go_enter Try.func87, Try.ntmps87
    go_wp2_with (first | (go_at_call 152; (with_reducible refine (HC1.out _ (HP.out.below (below_alloc (below_alloc (Below.refl _ _) _) _))).mono ?_); rintro e w1 ⟨v0, v1, rfl, h0, h1, hb⟩; obtain ⟨B0, d0, rfl⟩ := h0.slice; obtain ⟨B1, d1, rfl⟩ := h1.slice; have HF0 := Aside0.mk (show FI kSp (w.heap.size + 1 + 1) w1 (.slice B0 sp.length d0) sp by simpa using h0); have HF1 := Aside0.mk (show FI (Kd.int .i64) (w.heap.size + 1 + 1) w1 (.slice B1 dp.length d1) dp by simpa using h1); have HB1 := Aside0.mk (below_then (below_alloc (below_alloc (Below.refl w.heap.size w) (.cells #[.int .i64 h.f0, .int .u64 h.f1, .int .u64 h.f2, .int .u64 h.f3, .int .u64 h.f4, .slice A5 h.f5.length c5, .slice A6 h.f6.length c6, .slice A7 h.f7.length c7, .slice A8 h.f8.length c8] 64)) (.cells #[.int .i64 0, .int .u64 0, .int .u64 0, .int .u64 0, .int .u64 0, .slice none 0 0, .slice none 0 0, .slice none 0 0, .slice none 0 0] 64)) (by simp; omega) hb); have HX1 := Aside0.mk (blk_below (blk_alloc (blk_new w (.cells #[.int .i64 h.f0, .int .u64 h.f1, .int .u64 h.f2, .int .u64 h.f3, .int .u64 h.f4, .slice A5 h.f5.length c5, .slice A6 h.f6.length c6, .slice A7 h.f7.length c7, .slice A8 h.f8.length c8] 64)) (.cells #[.int .i64 0, .int .u64 0, .int .u64 0, .int .u64 0, .int .u64 0, .slice none 0 0, .slice none 0 0, .slice none 0 0, .slice none 0 0] 64)) hb); have HY1 := Aside0.mk (show w1.heap[w.heap.size + 1]? = some (.cells #[.int .i64 0, .int .u64 0, .int .u64 0, .int .u64 0, .int .u64 0, .slice none 0 0, .slice none 0 0, .slice none 0 0, .slice none 0 0] 64 (0, 0)) from (blk_below (show ((w.alloc (.cells #[.int .i64 h.f0, .int .u64 h.f1, .int .u64 h.f2, .int .u64 h.f3, .int .u64 h.f4, .slice A5 h.f5.length c5, .slice A6 h.f6.length c6, .slice A7 h.f7.length c7, .slice A8 h.f8.length c8] 64)).alloc (.cells #[.int .i64 0, .int .u64 0, .int .u64 0, .int .u64 0, .int .u64 0, .slice none 0 0, .slice none 0 0, .slice none 0 0, .slice none 0 0] 64)).heap[w.heap.size + 1]? = _ by simpa using blk_new (w.alloc (.cells #[.int .i64 h.f0, .int .u64 h.f1, .int .u64 h.f2, .int .u64 h.f3, .int .u64 h.f4, .slice A5 h.f5.length c5, .slice A6 h.f6.length c6, .slice A7 h.f7.length c7, .slice A8 h.f8.length c8] 64)) (.cells #[.int .i64 0, .int .u64 0, .int .u64 0, .int .u64 0, .int .u64 0, .slice none 0 0, .slice none 0 0, .slice none 0 0, .slice none 0 0] 64)) hb)); have hfx := fun i => blk_cell HX1.out i; have hzx := fun i => blk_frozen HX1.out i; have hfy := fun i => blk_cell HY1.out i; have hzy := fun i => blk_frozen HY1.out i; clear h0 h1 hb) | (go_at_call 152; (with_reducible refine (HC2.out _ (HN.out.below (belowS (HB1.out.size) HB1.out))).mono ?_); rintro e w3 ⟨v2, v3, rfl, h2, h3, hb⟩; obtain ⟨B2, d2, rfl⟩ := h2.slice; obtain ⟨B3, d3, rfl⟩ := h3.slice; have HS2 := Aside0.mk (show w.heap.size + 1 + 1 ≤ w1.heap.size from by have := blk_lt HY1.out; omega); have HF2 := Aside0.mk (show FI kSp (w.heap.size + 1 + 1) w3 (.slice B2 sn.length d2) sn from FI.lower h2 (by have := HS2.out; simpa [World.setCell] using this)); have HF3 := Aside0.mk (show FI (Kd.int .i64) (w.heap.size + 1 + 1) w3 (.slice B3 dn.length d3) dn from FI.lower h3 (by have := HS2.out; simpa [World.setCell] using this)); have HK3 := Aside0.mk (show KA (w.heap.size + 1 + 1) w1 w3 from ((KA.set _ (by omega) _).trans (KA.set _ (by omega) _)).trans (KA.below hb)); have HB3 := Aside0.mk (below_then (belowS (HB1.out.size) HB1.out) (by have := HB1.out.size; simpa [World.setCell] using this) hb); have HX3 := Aside0.mk (blk_below (show ((w1.setCell ⟨w.heap.size, 5, none⟩ (.slice B0 sp.length d0)).setCell ⟨w.heap.size, 7, none⟩ (.slice B1 dp.length d1)).heap[w.heap.size]? = some (.cells #[.int .i64 h.f0, .int .u64 h.f1, .int .u64 h.f2, .int .u64 h.f3, .int .u64 h.f4, .slice B0 sp.length d0, .slice A6 h.f6.length c6, .slice B1 dp.length d1, .slice A8 h.f8.length c8] 64 (0, 0)) from blk_put (blk_put HX1.out 5 _ rfl) 7 _ rfl) hb); have HY3 := Aside0.mk (blk_below (show ((w1.setCell ⟨w.heap.size, 5, none⟩ (.slice B0 sp.length d0)).setCell ⟨w.heap.size, 7, none⟩ (.slice B1 dp.length d1)).heap[w.heap.size + 1]? = some (.cells #[.int .i64 0, .int .u64 0, .int .u64 0, .int .u64 0, .int .u64 0, .slice none 0 0, .slice none 0 0, .slice none 0 0, .slice none 0 0] 64 (0, 0)) from blk_far (blk_far HY1.out (by show w.heap.size + 1 ≠ w.heap.size; omega) _) (by show w.heap.size + 1 ≠ w.heap.size; omega) _) hb); clear hfx hzx hfy hzy; have hfx := fun i => blk_cell HX3.out i; have hzx := fun i => blk_frozen HX3.out i; have hfy := fun i => blk_cell HY3.out i; have hzy := fun i => blk_frozen HY3.out i; clear h2 h3 hb) | (go_at_call 67; (with_reducible refine (HCK.out _ _ _ _ _ (HF0.out.at_ (HK3.out.trans ((KA.set _ (by omega) _).trans (KA.set _ (by omega) _)))) (HF2.out.at_ ((KA.set _ (by omega) _).trans (KA.set _ (by omega) _))) (HF1.out.at_ (HK3.out.trans ((KA.set _ (by omega) _).trans (KA.set _ (by omega) _)))) (HF3.out.at_ ((KA.set _ (by omega) _).trans (KA.set _ (by omega) _)))).mono ?_); rintro e w5 ⟨rfl, hb⟩; have HK5 := Aside0.mk (show KA (w.heap.size + 1 + 1) w3 w5 from ((KA.set _ (by omega) _).trans (KA.set _ (by omega) _)).trans (KA.below hb)); have HB5 := Aside0.mk (below_then (belowS (HB3.out.size) HB3.out) (by have := HB3.out.size; simpa [World.setCell] using this) hb); have HX5 := Aside0.mk (blk_below (show ((w3.setCell ⟨w.heap.size, 6, none⟩ (.slice B2 sn.length d2)).setCell ⟨w.heap.size, 8, none⟩ (.slice B3 dn.length d3)).heap[w.heap.size]? = some (.cells #[.int .i64 h.f0, .int .u64 h.f1, .int .u64 h.f2, .int .u64 h.f3, .int .u64 h.f4, .slice B0 sp.length d0, .slice B2 sn.length d2, .slice B1 dp.length d1, .slice B3 dn.length d3] 64 (0, 0)) from blk_put (blk_put HX3.out 6 _ rfl) 8 _ rfl) hb); have HY5 := Aside0.mk (blk_below (show ((w3.setCell ⟨w.heap.size, 6, none⟩ (.slice B2 sn.length d2)).setCell ⟨w.heap.size, 8, none⟩ (.slice B3 dn.length d3)).heap[w.heap.size + 1]? = some (.cells #[.int .i64 0, .int .u64 0, .int .u64 0, .int .u64 0, .int .u64 0, .slice none 0 0, .slice none 0 0, .slice none 0 0, .slice none 0 0] 64 (0, 0)) from blk_far (blk_far HY3.out (by show w.heap.size + 1 ≠ w.heap.size; omega) _) (by show w.heap.size + 1 ≠ w.heap.size; omega) _) hb); clear hfx hzx hfy hzy; have hfx := fun i => blk_cell HX5.out i; have hzx := fun i => blk_frozen HX5.out i; have hfy := fun i => blk_cell HY5.out i; have hzy := fun i => blk_frozen HY5.out i; clear hb))
    refine bodyPost_ret (results_ct rfl _ _ (w.heap.size + 1) 64 #[.int .i64 0, .int .u64 0, .int .u64 0, .int .u64 0, .int .u64 0, .slice none 0 0, .slice none 0 0, .slice none 0 0, .slice none 0 0] (0, 0) _ rfl (nine (HY5.out) _ _ _ _ _ _ _ _ _) Try.underlying64 rfl (by kernel_rfl)) rfl ?_
    exact ⟨_, rfl, HF.empty _ _, nine_below HB5.out (by omega) _ _ _ _ _ _ _ _ _⟩
  subst c3
  rw [if_neg (by simp)]
  go_enter Try.func87, Try.ntmps87
  go_wp2_with (first | (go_at_call 152; (with_reducible refine (HC1.out _ (HP.out.below (below_alloc (below_alloc (Below.refl _ _) _) _))).mono ?_); rintro e w1 ⟨v0, v1, rfl, h0, h1, hb⟩; obtain ⟨B0, d0, rfl⟩ := h0.slice; obtain ⟨B1, d1, rfl⟩ := h1.slice; have HF0 := Aside0.mk (show FI kSp (w.heap.size + 1 + 1) w1 (.slice B0 sp.length d0) sp by simpa using h0); have HF1 := Aside0.mk (show FI (Kd.int .i64) (w.heap.size + 1 + 1) w1 (.slice B1 dp.length d1) dp by simpa using h1); have HB1 := Aside0.mk (below_then (below_alloc (below_alloc (Below.refl w.heap.size w) (.cells #[.int .i64 h.f0, .int .u64 h.f1, .int .u64 h.f2, .int .u64 h.f3, .int .u64 h.f4, .slice A5 h.f5.length c5, .slice A6 h.f6.length c6, .slice A7 h.f7.length c7, .slice A8 h.f8.length c8] 64)) (.cells #[.int .i64 0, .int .u64 0, .int .u64 0, .int .u64 0, .int .u64 0, .slice none 0 0, .slice none 0 0, .slice none 0 0, .slice none 0 0] 64)) (by simp; omega) hb); have HX1 := Aside0.mk (blk_below (blk_alloc (blk_new w (.cells #[.int .i64 h.f0, .int .u64 h.f1, .int .u64 h.f2, .int .u64 h.f3, .int .u64 h.f4, .slice A5 h.f5.length c5, .slice A6 h.f6.length c6, .slice A7 h.f7.length c7, .slice A8 h.f8.length c8] 64)) (.cells #[.int .i64 0, .int .u64 0, .int .u64 0, .int .u64 0, .int .u64 0, .slice none 0 0, .slice none 0 0, .slice none 0 0, .slice none 0 0] 64)) hb); have HY1 := Aside0.mk (show w1.heap[w.heap.size + 1]? = some (.cells #[.int .i64 0, .int .u64 0, .int .u64 0, .int .u64 0, .int .u64 0, .slice none 0 0, .slice none 0 0, .slice none 0 0, .slice none 0 0] 64 (0, 0)) from (blk_below (show ((w.alloc (.cells #[.int .i64 h.f0, .int .u64 h.f1, .int .u64 h.f2, .int .u64 h.f3, .int .u64 h.f4, .slice A5 h.f5.length c5, .slice A6 h.f6.length c6, .slice A7 h.f7.length c7, .slice A8 h.f8.length c8] 64)).alloc (.cells #[.int .i64 0, .int .u64 0, .int .u64 0, .int .u64 0, .int .u64 0, .slice none 0 0, .slice none 0 0, .slice none 0 0, .slice none 0 0] 64)).heap[w.heap.size + 1]? = _ by simpa using blk_new (w.alloc (.cells #[.int .i64 h.f0, .int .u64 h.f1, .int .u64 h.f2, .int .u64 h.f3, .int .u64 h.f4, .slice A5 h.f5.length c5, .slice A6 h.f6.length c6, .slice A7 h.f7.length c7, .slice A8 h.f8.length c8] 64)) (.cells #[.int .i64 0, .int .u64 0, .int .u64 0, .int .u64 0, .int .u64 0, .slice none 0 0, .slice none 0 0, .slice none 0 0, .slice none 0 0] 64)) hb)); have hfx := fun i => blk_cell HX1.out i; have hzx := fun i => blk_frozen HX1.out i; have hfy := fun i => blk_cell HY1.out i; have hzy := fun i => blk_frozen HY1.out i; clear h0 h1 hb) | (go_at_call 152; (with_reducible refine (HC2.out _ (HN.out.below (belowS (HB1.out.size) HB1.out))).mono ?_); rintro e w3 ⟨v2, v3, rfl, h2, h3, hb⟩; obtain ⟨B2, d2, rfl⟩ := h2.slice; obtain ⟨B3, d3, rfl⟩ := h3.slice; have HS2 := Aside0.mk (show w.heap.size + 1 + 1 ≤ w1.heap.size from by have := blk_lt HY1.out; omega); have HF2 := Aside0.mk (show FI kSp (w.heap.size + 1 + 1) w3 (.slice B2 sn.length d2) sn from FI.lower h2 (by have := HS2.out; simpa [World.setCell] using this)); have HF3 := Aside0.mk (show FI (Kd.int .i64) (w.heap.size + 1 + 1) w3 (.slice B3 dn.length d3) dn from FI.lower h3 (by have := HS2.out; simpa [World.setCell] using this)); have HK3 := Aside0.mk (show KA (w.heap.size + 1 + 1) w1 w3 from ((KA.set _ (by omega) _).trans (KA.set _ (by omega) _)).trans (KA.below hb)); have HB3 := Aside0.mk (below_then (belowS (HB1.out.size) HB1.out) (by have := HB1.out.size; simpa [World.setCell] using this) hb); have HX3 := Aside0.mk (blk_below (show ((w1.setCell ⟨w.heap.size, 5, none⟩ (.slice B0 sp.length d0)).setCell ⟨w.heap.size, 7, none⟩ (.slice B1 dp.length d1)).heap[w.heap.size]? = some (.cells #[.int .i64 h.f0, .int .u64 h.f1, .int .u64 h.f2, .int .u64 h.f3, .int .u64 h.f4, .slice B0 sp.length d0, .slice A6 h.f6.length c6, .slice B1 dp.length d1, .slice A8 h.f8.length c8] 64 (0, 0)) from blk_put (blk_put HX1.out 5 _ rfl) 7 _ rfl) hb); have HY3 := Aside0.mk (blk_below (show ((w1.setCell ⟨w.heap.size, 5, none⟩ (.slice B0 sp.length d0)).setCell ⟨w.heap.size, 7, none⟩ (.slice B1 dp.length d1)).heap[w.heap.size + 1]? = some (.cells #[.int .i64 0, .int .u64 0, .int .u64 0, .int .u64 0, .int .u64 0, .slice none 0 0, .slice none 0 0, .slice none 0 0, .slice none 0 0] 64 (0, 0)) from blk_far (blk_far HY1.out (by show w.heap.size + 1 ≠ w.heap.size; omega) _) (by show w.heap.size + 1 ≠ w.heap.size; omega) _) hb); clear hfx hzx hfy hzy; have hfx := fun i => blk_cell HX3.out i; have hzx := fun i => blk_frozen HX3.out i; have hfy := fun i => blk_cell HY3.out i; have hzy := fun i => blk_frozen HY3.out i; clear h2 h3 hb) | (go_at_call 67; (with_reducible refine (HCK.out _ _ _ _ _ (HF0.out.at_ (HK3.out.trans ((KA.set _ (by omega) _).trans (KA.set _ (by omega) _)))) (HF2.out.at_ ((KA.set _ (by omega) _).trans (KA.set _ (by omega) _))) (HF1.out.at_ (HK3.out.trans ((KA.set _ (by omega) _).trans (KA.set _ (by omega) _)))) (HF3.out.at_ ((KA.set _ (by omega) _).trans (KA.set _ (by omega) _)))).mono ?_); rintro e w5 ⟨rfl, hb⟩; have HK5 := Aside0.mk (show KA (w.heap.size + 1 + 1) w3 w5 from ((KA.set _ (by omega) _).trans (KA.set _ (by omega) _)).trans (KA.below hb)); have HB5 := Aside0.mk (below_then (belowS (HB3.out.size) HB3.out) (by have := HB3.out.size; simpa [World.setCell] using this) hb); have HX5 := Aside0.mk (blk_below (show ((w3.setCell ⟨w.heap.size, 6, none⟩ (.slice B2 sn.length d2)).setCell ⟨w.heap.size, 8, none⟩ (.slice B3 dn.length d3)).heap[w.heap.size]? = some (.cells #[.int .i64 h.f0, .int .u64 h.f1, .int .u64 h.f2, .int .u64 h.f3, .int .u64 h.f4, .slice B0 sp.length d0, .slice B2 sn.length d2, .slice B1 dp.length d1, .slice B3 dn.length d3] 64 (0, 0)) from blk_put (blk_put HX3.out 6 _ rfl) 8 _ rfl) hb); have HY5 := Aside0.mk (blk_below (show ((w3.setCell ⟨w.heap.size, 6, none⟩ (.slice B2 sn.length d2)).setCell ⟨w.heap.size, 8, none⟩ (.slice B3 dn.length d3)).heap[w.heap.size + 1]? = some (.cells #[.int .i64 0, .int .u64 0, .int .u64 0, .int .u64 0, .int .u64 0, .slice none 0 0, .slice none 0 0, .slice none 0 0, .slice none 0 0] 64 (0, 0)) from blk_far (blk_far HY3.out (by show w.heap.size + 1 ≠ w.heap.size; omega) _) (by show w.heap.size + 1 ≠ w.heap.size; omega) _) hb); clear hfx hzx hfy hzy; have hfx := fun i => blk_cell HX5.out i; have hzx := fun i => blk_frozen HX5.out i; have hfy := fun i => blk_cell HY5.out i; have hzy := fun i => blk_frozen HY5.out i; clear hb))
  refine bodyPost_ret (results_ct rfl _ _ (w.heap.size + 1) 64 #[.int .i64 h.f0, .int .u64 h.f1, .int .u64 h.f2, .int .u64 h.f3, .int .u64 h.f4, .slice B0 sp.length d0, .slice B2 sn.length d2, .slice B1 dp.length d1, .slice B3 dn.length d3] (0, 0) _ rfl (nine (HY5.out) _ _ _ _ _ _ _ _ _) Try.underlying64 rfl (by kernel_rfl)) rfl ?_
  exact ⟨_, rfl, HF.mk (h := ⟨h.f0, h.f1, h.f2, h.f3, h.f4, sp, sn, dp, dn⟩) ((HF0.out.step (HK3.out.trans (nine_ka HK5.out (by omega) _ _ _ _ _ _ _ _ _))).lower (by omega)) ((HF2.out.step (nine_ka HK5.out (by omega) _ _ _ _ _ _ _ _ _)).lower (by omega)) ((HF1.out.step (HK3.out.trans (nine_ka HK5.out (by omega) _ _ _ _ _ _ _ _ _))).lower (by omega)) ((HF3.out.step (nine_ka HK5.out (by omega) _ _ _ _ _ _ _ _ _)).lower (by omega)), nine_below HB5.out (by omega) _ _ _ _ _ _ _ _ _⟩
theorem make_c (h : Hi) (hw : wfH h) (p n : List Pr) (hp : wfRow p) (hn : wfRow n) (w : World) (v vp vn : Value) (hv : HI w v h) (hvp : SI kPr w vp p) (hvn : SI kPr w vn n) : Calls Try.prog 87 #[v, vp, vn] w fun e w' =>
    ∃ v', e = .returned (.tuple #[v', .int .i64 (makeR h p n).2]) ∧ HF w.heap.size w' v' (makeR h p n).1 ∧ Below w.heap.size w w' := make_n h p n (madeH_wf hw hp hn) hp hn w v vp vn hv hvp hvn
end Go.Proofs.Ytacgeafjilipdaa.P
namespace Go.Proofs.Ytacgeafjilipdaa.P
open Go.RowKit Go.Shelf Go.Proofs.YtacgeafjilipdaaW.PrintWords Go.Proofs.YtacgeafjilipdaaW.PrintLast Go.Proofs.YtacgeafjilipdaaW.PrintMore
set_option linter.unusedVariables false
set_option linter.unusedSimpArgs false
abbrev kPu := k123
def u64s (l : List Int) : Prop := ∀ x ∈ l, u64 x
instance (l : List Int) : Decidable (u64s l) := by unfold u64s; exact inferInstance
def rightF (v : Int) : Bool := decide (v < 9218868437227405312)
theorem thresh_c (v : Int) (w : World) : Calls Try.prog 74 #[.int .u64 v] w fun e w' => e = .returned (.bool (rightF v)) ∧ Below w.heap.size w w' := (hist_Threshold.calls v _ w rfl).mono fun e w1 h => ⟨h.1, h.2.below⟩
theorem right_c (v : Int) (w : World) : Calls Try.prog 98 #[.int .u64 v] w fun e w' => e = .returned (.bool (rightF v)) ∧ Below w.heap.size w w' := by
  have HT := thresh_c v
  generalize rightF v = b at *
  go_enter Try.func98, Try.ntmps98
  go_wp2_with (go_at_call 74; (with_reducible refine (HT _).mono ?_); rintro e w1 ⟨rfl, hb⟩)
  go_ret
  exact ⟨rfl, hb⟩
theorem wrong_c (v : Int) (w : World) : Calls Try.prog 181 #[.int .u64 v] w fun e w' => e = .returned (.bool (!rightF v)) ∧ Below w.heap.size w w' := by
  have HT := right_c v
  generalize rightF v = b at *
  go_enter Try.func181, Try.ntmps181
  go_wp2_with (go_at_call 98; (with_reducible refine (HT _).mono ?_); rintro e w1 ⟨rfl, hb⟩)
  go_ret
  exact ⟨rfl, hb⟩
def sideF (l : List Sp) (c : List Int) : List Pu × Int :=
  if spCheck l = 0 then (if cntN l = c.length then (if c.any (fun v => !rightF v) = true then ([], 22) else (List.zipWith (fun p x => (⟨p, x⟩ : Pu)) (plN 0 l) c, 0)) else ([], 23)) else ([], spCheck l)
theorem spCheck_c (l : List Sp) (hw : wfSps l) (w : World) (v : Value) (hv : SI kSp w v l) : Calls Try.prog 130 #[v] w fun e w' => e = .returned (.int .i64 (spCheck l)) ∧ Below w.heap.size w w' := by
  obtain ⟨A, c, rfl, hc, hr⟩ := hv
  exact span_Check.calls 2049 A c l _ w hr hc (check_eq l hw 2049 (by omega))
theorem spCount_c (l : List Sp) (hw : wfSps l) (h0 : spCheck l = 0) (w : World) (v : Value) (hv : SI kSp w v l) : Calls Try.prog 187 #[v] w fun e w' => e = .returned (.int .i64 (cntN l)) ∧ Below w.heap.size w w' := by
  obtain ⟨A, c, rfl, hc, hr⟩ := hv
  exact span_Count.calls 2049 A c l _ w hr hc (by rw [count_eq l hw 2049 (by omega), if_pos h0])
theorem anyWrong_c (c : List Int) (hm : c.length < 4398046511104) (w : World) (v : Value) (hv : SI (Kd.int .u64) w v c) : Calls Try.prog 194 #[v, .func (.func 181) #[] #[]] w fun e w' => e = .returned (.bool (c.any (fun v => !rightF v))) ∧ Below w.heap.size w w' := by
  obtain ⟨A, c', rfl, hc, hr⟩ := hv
  exact containsFunc_num_uint64 181 #[] (fun v => !rightF v) A c' c w hr hc (by omega) (fun W x _ => wrong_c x W) (enters_of Try.func181 (by kernel_rfl) rfl)
theorem zipU_c (l : List Sp) (c : List Int) (hw : wfSps l) (w : World) (v u : Value) (hv : SI kSp w v l) (hu : SI (Kd.int .u64) w u c) : Calls Try.prog 195 #[v, u] w fun e w' => ∃ v0, e = .returned (.tuple #[v0, .int .i64 (zipResU l c).2]) ∧ FI kPu w.heap.size w' v0 (zipResU l c).1 ∧ Below w.heap.size w w' := by
  obtain ⟨A, c1, rfl, hc, hr⟩ := hv
  obtain ⟨B, c2, rfl, hd, hs⟩ := hu
  refine (pairs_Zip_uint64.calls 4101 A c1 l B c2 c (zipResU l c).1 (zipResU l c).2 w hr hc hs hd (zipU_eq l c hw 4101 (by omega))).mono ?_
  rintro e w1 ⟨v0, rfl, h0, hb⟩
  exact ⟨v0, rfl, .of_R h0 (Nat.le_refl _), hb⟩
set_option maxHeartbeats 8000000 in
set_option maxRecDepth 100000 in
theorem fside_c (l : List Sp) (c : List Int) (hw : wfSps l) (hm : c.length < 4398046511104) (w : World) (v u : Value) (hv : SI kSp w v l) (hu : SI (Kd.int .u64) w u c) : Calls Try.prog 182 #[v, u] w fun e w' => ∃ v0, e = .returned (.tuple #[v0, .int .i64 (sideF l c).2]) ∧ FI kPu w.heap.size w' v0 (sideF l c).1 ∧ Below w.heap.size w w' := by
  have hv' := hv
  have hu' := hu
  obtain ⟨A, c1, e1, -⟩ := hv'
  obtain ⟨A1, c2, e2, -⟩ := hu'
  subst e1; subst e2
  have B := Aside0.mk (Below.refl w.heap.size w)
  have HV := Aside0.mk hv
  have HU := Aside0.mk hu
  have kc := spCheck_c l hw
  have kn := spCount_c l hw
  have kf := anyWrong_c c hm
  have kz := zipU_c l c hw
  have hpl : spCheck l = 0 → ((plN 0 l).length : Int) = cntN l := fun h => plN_length l 0 (fun s hs => (spRight_pos l _ _ _ (spCheck_zero h).2 s hs).1)
  have hzr : zipResU l c = if spCheck l = 0 then (if (plN 0 l).length = c.length then (List.zipWith (fun p x => (⟨p, x⟩ : Pu)) (plN 0 l) c, 0) else ([], 10)) else ([], spCheck l) := rfl
  clear hv hu hw hm
  unfold sideF
  by_cases he : spCheck l = 0
  rotate_left
  · rw [if_neg he]
    generalize spCheck l = r at *
    have d1 : (r == 0) = false := beq_eq_false_iff_ne.2 he
    have d2 : (r != 0) = true := bne_iff_ne.2 he
    have KC := Aside0.mk kc
    clear kc kn kf kz hpl hzr he
    go_enter Try.func182, Try.ntmps182
    go_wp2_with (first | (go_at_call 130; (with_reducible refine (KC.out _ _ HV.out).mono ?_); rintro e W1 ⟨rfl, hb⟩; replace B := Aside0.mk (below_then B.out B.out.size hb); replace HV := Aside0.mk (HV.out.below hb); replace HU := Aside0.mk (HU.out.below hb); clear  hb))
    go_ret2
    exact ⟨_, rfl, fun w _ => SI.nil _ w, B.out⟩
  rw [if_pos he]
  rw [he] at kc
  have KC := Aside0.mk kc
  have KN := Aside0.mk (kn he)
  have hp := hpl he
  rw [if_pos he] at hzr
  clear kc kn hpl he
  generalize cntN l = n at *
  by_cases hc : n = (c.length : Int)
  rotate_left
  · rw [if_neg hc]
    have d1 : (n == (c.length : Int)) = false := beq_eq_false_iff_ne.2 hc
    have d2 : (n != (c.length : Int)) = true := bne_iff_ne.2 hc
    clear kf kz hzr hp hc
    go_enter Try.func182, Try.ntmps182
    go_wp2_with (first | (go_at_call 130; (with_reducible refine (KC.out _ _ HV.out).mono ?_); rintro e W1 ⟨rfl, hb⟩; replace B := Aside0.mk (below_then B.out B.out.size hb); replace HV := Aside0.mk (HV.out.below hb); replace HU := Aside0.mk (HU.out.below hb); clear  hb) | (go_at_call 187; (with_reducible refine (KN.out _ _ HV.out).mono ?_); rintro e W2 ⟨rfl, hb⟩; replace B := Aside0.mk (below_then B.out B.out.size hb); replace HV := Aside0.mk (HV.out.below hb); replace HU := Aside0.mk (HU.out.below hb); clear  hb))
    go_ret2
    exact ⟨_, rfl, fun w _ => SI.nil _ w, B.out⟩
  rw [if_pos hc]
  have d1 : (n == (c.length : Int)) = true := beq_iff_eq.2 hc
  have d2 : (n != (c.length : Int)) = false := by rw [bne, d1]; rfl
  rw [if_pos (by omega)] at hzr
  rw [hzr] at kz
  clear hzr hp hc
  generalize List.zipWith (fun p x => (⟨p, x⟩ : Pu)) (plN 0 l) c = z at *
  have KZ := Aside0.mk kz
  clear kz
  generalize c.any (fun v => !rightF v) = b at *
  have KF := Aside0.mk kf
  clear kf
  cases b with
  | true =>
    rw [if_pos rfl]
    go_enter Try.func182, Try.ntmps182
    go_wp2_with (first | (go_at_call 130; (with_reducible refine (KC.out _ _ HV.out).mono ?_); rintro e W1 ⟨rfl, hb⟩; replace B := Aside0.mk (below_then B.out B.out.size hb); replace HV := Aside0.mk (HV.out.below hb); replace HU := Aside0.mk (HU.out.below hb); clear  hb) | (go_at_call 187; (with_reducible refine (KN.out _ _ HV.out).mono ?_); rintro e W2 ⟨rfl, hb⟩; replace B := Aside0.mk (below_then B.out B.out.size hb); replace HV := Aside0.mk (HV.out.below hb); replace HU := Aside0.mk (HU.out.below hb); clear  hb) | (go_at_call 194; (with_reducible refine (KF.out _ _ HU.out).mono ?_); rintro e W3 ⟨rfl, hb⟩; replace B := Aside0.mk (below_then B.out B.out.size hb); replace HV := Aside0.mk (HV.out.below hb); replace HU := Aside0.mk (HU.out.below hb); clear  hb))
    go_ret2
    exact ⟨_, rfl, fun w _ => SI.nil _ w, B.out⟩
  | false =>
    rw [if_neg (by simp)]
    go_enter Try.func182, Try.ntmps182
    go_wp2_with (first | (go_at_call 130; (with_reducible refine (KC.out _ _ HV.out).mono ?_); rintro e W1 ⟨rfl, hb⟩; replace B := Aside0.mk (below_then B.out B.out.size hb); replace HV := Aside0.mk (HV.out.below hb); replace HU := Aside0.mk (HU.out.below hb); clear  hb) | (go_at_call 187; (with_reducible refine (KN.out _ _ HV.out).mono ?_); rintro e W2 ⟨rfl, hb⟩; replace B := Aside0.mk (below_then B.out B.out.size hb); replace HV := Aside0.mk (HV.out.below hb); replace HU := Aside0.mk (HU.out.below hb); clear  hb) | (go_at_call 194; (with_reducible refine (KF.out _ _ HU.out).mono ?_); rintro e W3 ⟨rfl, hb⟩; replace B := Aside0.mk (below_then B.out B.out.size hb); replace HV := Aside0.mk (HV.out.below hb); replace HU := Aside0.mk (HU.out.below hb); clear  hb) | (go_at_call 195; (with_reducible refine (KZ.out _ _ _ HV.out HU.out).mono ?_); rintro e W4 ⟨v0, rfl, hz, hb⟩; have B0 := Aside0.mk B.out.size; replace B := Aside0.mk (below_then B.out B.out.size hb); replace HV := Aside0.mk (HV.out.below hb); replace HU := Aside0.mk (HU.out.below hb); have Z := Aside0.mk hz; have hz' := Z.out; obtain ⟨zA, zc, ez⟩ := hz'.slice; subst ez; clear hz hb))
    go_ret2
    exact ⟨_, rfl, Z.out.lower B0.out, B.out⟩
end Go.Proofs.Ytacgeafjilipdaa.P
namespace Go.Proofs.Ytacgeafjilipdaa.P
open Go.RowKit Go.Proofs.YtacgeafjilipdaaW.PrintWords Go.Proofs.YtacgeafjilipdaaW.PrintLast Go.Proofs.YtacgeafjilipdaaW.PrintMore
attribute [local go_sem] max2_int min2_int max_two min_two max_three min_three max_four min_four
set_option linter.unusedVariables false
set_option linter.unusedSimpArgs false
mutual
def reset_less_int64.l0 : Nat → List (S26) → Int → List (S26) → Int → Int → Option (Int × Bool)
 | 0, _, _, _, _, _ => none
 | k + 1, x1, x6, x10, x11, x12 => if x12 < x11 then (if 0 ≤ x12 then (if x12 < (x10.length : Int) then (reset_less_int64.l1 k x1 x6 x10 x11 x12 ((rd_T26 x10 x12).f0) ((rd_T26 x10 x12).f1)) else (none)) else (none)) else (some (0, false))
def reset_less_int64.j2 : Nat → List (S26) → Int → List (S26) → Int → Int → Int → Int → Option (Int × Bool)
 | 0, _, _, _, _, _, _, _ => none
 | k + 1, x1, x6, x10, x11, x12, x103000, x103001 => if (x1.length : Int) > 0 then (if 0 < (x1.length : Int) then (reset_less_int64.j3 k x1 x6 x6 x10 x11 x12 (((rd_T26 x1 0).f0) == x103000) x103000 x103001) else (none)) else (reset_less_int64.j3 k x1 x6 x6 x10 x11 x12 false x103000 x103001)
def reset_less_int64.j3 : Nat → List (S26) → Int → Int → List (S26) → Int → Int → Bool → Int → Int → Option (Int × Bool)
 | 0, _, _, _, _, _, _, _, _, _ => none
 | k + 1, x1, x6, x9, x10, x11, x12, x42, x103000, x103001 => if x42 = true then (if 0 < (x1.length : Int) then (if ((rd_T26 x1 0).f1) < x103001 then (some (x103000, true)) else (reset_less_int64.l0 k x1 x6 x10 x11 (wrap64 (x12 + 1)))) else (none)) else (if x9 < x103001 then (some (x103000, true)) else (reset_less_int64.l0 k x1 x6 x10 x11 (wrap64 (x12 + 1))))
def reset_less_int64.l1 : Nat → List (S26) → Int → List (S26) → Int → Int → Int → Int → Option (Int × Bool)
 | 0, _, _, _, _, _, _, _ => none
 | k + 1, x1, x6, x10, x11, x12, x103000, x103001 => if (x1.length : Int) > 0 then (if 0 < (x1.length : Int) then (if ((rd_T26 x1 0).f0) < x103000 then (if 1 ≤ (x1.length : Int) then (reset_less_int64.l1 k (x1.drop 1) x6 x10 x11 x12 x103000 x103001) else (none)) else (reset_less_int64.j2 k x1 x6 x10 x11 x12 x103000 x103001)) else (none)) else (reset_less_int64.j2 k x1 x6 x10 x11 x12 x103000 x103001)
end
def reset_less_int64.f (k : Nat) (l0 : List (S26)) (l1 : List (S26)) : Option (Int × Bool) := reset_less_int64.l0 k l1 0 l0 (l0.length : Int) 0
set_option maxHeartbeats 8000000 in
set_option maxRecDepth 100000 in
theorem reset_less_int64.calls (k : Nat) (A0 : Option Addr) (c0 : Nat) (l0 : List (S26)) (P1_ : Nat → Prop) (A1 : Option Addr) (c1 : Nat) (l1 : List (S26)) (r1 : Int) (r2 : Bool) (w : World) (hr0 : Kd.C k26 w A0 l0.length l0) (hc0 : l0.length ≤ c0) (hs1 : Kd.V k26 26 w w.heap.size (fun k_ => P1_ k_) (.slice A1 l1.length c1) l1) (h : reset_less_int64.f k l0 l1 = some (r1, r2)) :
  Calls Try.prog 175 #[.slice A0 l0.length c0, .slice A1 l1.length c1] w fun e w' => e = .returned (.tuple #[.int .i64 r1, .bool r2]) ∧ Below w.heap.size w w' := by
 have hu26 := Try.underlying26
 have HR0 := Aside0.mk hr0
 have HC0 := Aside0.mk hc0
 clear hr0 hc0
 have HO1 := Aside0.mk (show Kd.V k26 26 w w.heap.size (fun k_ => (P1_ k_ ∨ w.heap.size ≤ k_)) (.slice A1 l1.length c1) l1 from Kd.V_mono hs1 (fun k_ hk => .inl hk))
 have HB := Aside0.mk (Below.refl w.heap.size w)
 have H : (reset_less_int64.l0 k l1 0 l0 (l0.length : Int) 0) = some (r1, r2) := h
 clear h
 have H' := Aside0.mk H
 clear H
 go_enter Try.func175, Try.ntmps175
 go_wp2
 repeat (go_quiet (fail); try go_wp2)
 go_loopg [1, 12] k (fun kq v1 v12 w' => ∃ (x1_1 : List (S26)) (x12_1 : Int), v12 = .int .i64 x12_1 ∧ Aside0 (reset_less_int64.l0 kq x1_1 0 l0 (l0.length : Int) x12_1 = some (r1, r2)) ∧ Aside0 (kq ≤ k) ∧ Aside0 (Kd.V k26 26 w' w.heap.size (fun k_ => (P1_ k_ ∨ w.heap.size ≤ k_)) v1 x1_1) ∧ Aside0 (Below w.heap.size w w'))
 case atStart => exact ⟨(l1), (0), (by first | rfl | (simp; done) | (simp [*]; done)), H', ⟨Nat.le_refl _⟩, ⟨by (with_reducible repeat (first | apply Kd.V_alloc | apply Kd.V_drewN | apply Kd.V_drew)); exact HO1.out⟩, ⟨by repeat (first | (with_reducible first | exact HB.out | apply below_alloc | apply pw_below_drewN | apply below_drew1) | exact HB.out)⟩⟩
 case round =>
  clear H'
  try clear c1
  try clear p2
  obtain ⟨x1_1, x12_1, rfl, HA, HK1, HO_1, HB⟩ := hrel
  cases gk with
  | zero => exact absurd HA.out (by simp [reset_less_int64.l0])
  | succ k1 =>
   have H := HA.out
   clear HA
   simp only [reset_less_int64.l0] at H
   by_cases c3 : x12_1 < (l0.length : Int)
   ·rw [if_pos c3] at H
    have c3b0 : decide (x12_1 < (l0.length : Int)) = true := decide_eq_true c3
    clear c3
    by_cases c4 : 0 ≤ x12_1
    ·rw [if_pos c4] at H
     have c4b0 : decide (0 ≤ x12_1) = true := decide_eq_true c4
     clear c4
     by_cases c5 : x12_1 < (l0.length : Int)
     ·rw [if_pos c5] at H
      have c5b0 : decide (x12_1 < (l0.length : Int)) = true := decide_eq_true c5
      clear c5
      have HC6 := Aside0.mk H
      clear H
      have p101 : 0 ≤ (x12_1 : Int) := of_decide_eq_true (by first | (with_reducible assumption) | assumption)
      have q101 : x12_1 < (l0.length : Int) := of_decide_eq_true (by first | (with_reducible assumption) | assumption)
      obtain ⟨ad101, e101, hx101_0, hx101_1⟩ := at_T26 HR0.out x12_1 p101 q101
      cases e101
      replace hx101_0 := (HB.out.cell (World.block_lt_of_cell? w _ hx101_0)).trans hx101_0
      replace hx101_1 := (HB.out.cell (World.block_lt_of_cell? w _ hx101_1)).trans hx101_1
      replace p101 := eq_true p101
      replace q101 := eq_true q101
      go_upto_block 2 with (first | ((with_reducible refine gate_dst (N := 8) rfl ?_); refine box_event ?hg (N := 8) ?hd (cs := #[.int .i64 0, .int .i64 0]) (t := 26) ?hr ?_; (case hd => rfl); (case hg => rfl); (case hr => first | (go_simp; done) | (go_simp; rfl)); intro gb102 hg w7 hbox hb; have n0_ := Aside0.mk (Kd.V_below (Kd.V_elderB (by (with_reducible repeat (first | apply Kd.V_alloc | apply Kd.V_drewN | apply Kd.V_drew)); exact HO_1.out) gb102 (Nat.le_of_eq hg.symm)) hb); have n1_ := Aside0.mk (below_step (by repeat (first | (with_reducible first | exact HB.out | apply below_alloc | apply pw_below_drewN | apply below_drew1) | exact HB.out)) hb); have n2_ := Aside0.mk (hbox); have n3_ := Aside0.mk ((by rw [hg]; exact (below_size (by repeat (first | (with_reducible first | exact HB.out | apply below_alloc | apply pw_below_drewN | apply below_drew1) | exact HB.out))) : w.heap.size ≤ gb102)); have n4_ := Aside0.mk ((by rw [hg]; exact (below_size (by repeat (first | (with_reducible first | exact HB.out | apply below_alloc | apply pw_below_drewN | apply below_drew1) | exact HB.out))) : w.heap.size ≤ gb102)); clear HO_1; clear HB; have HO_1 := n0_; have HB := n1_; have BK102 := n2_; have GW102 := n3_; have GE102 := n4_; clear n0_ n1_ n2_ n3_ n4_; clear hb hbox hg; have hcz8_0 : w7.cell? ⟨gb102, 0, none⟩ = some (.int .i64 0) := (blk_cell BK102.out 0).trans rfl; have hcz8_1 : w7.cell? ⟨gb102, 1, none⟩ = some (.int .i64 0) := (blk_cell BK102.out 1).trans rfl; have hfz8_0 := blk_frozen BK102.out 0; have hfz8_1 := blk_frozen BK102.out 1))
      repeat (go_quiet (first | ((with_reducible refine gate_dst (N := 8) rfl ?_); refine box_event ?hg (N := 8) ?hd (cs := #[.int .i64 0, .int .i64 0]) (t := 26) ?hr ?_; (case hd => rfl); (case hg => rfl); (case hr => first | (go_simp; done) | (go_simp; rfl)); intro gb102 hg w7 hbox hb; have n0_ := Aside0.mk (Kd.V_below (Kd.V_elderB (by (with_reducible repeat (first | apply Kd.V_alloc | apply Kd.V_drewN | apply Kd.V_drew)); exact HO_1.out) gb102 (Nat.le_of_eq hg.symm)) hb); have n1_ := Aside0.mk (below_step (by repeat (first | (with_reducible first | exact HB.out | apply below_alloc | apply pw_below_drewN | apply below_drew1) | exact HB.out)) hb); have n2_ := Aside0.mk (hbox); have n3_ := Aside0.mk ((by rw [hg]; exact (below_size (by repeat (first | (with_reducible first | exact HB.out | apply below_alloc | apply pw_below_drewN | apply below_drew1) | exact HB.out))) : w.heap.size ≤ gb102)); have n4_ := Aside0.mk ((by rw [hg]; exact (below_size (by repeat (first | (with_reducible first | exact HB.out | apply below_alloc | apply pw_below_drewN | apply below_drew1) | exact HB.out))) : w.heap.size ≤ gb102)); clear HO_1; clear HB; have HO_1 := n0_; have HB := n1_; have BK102 := n2_; have GW102 := n3_; have GE102 := n4_; clear n0_ n1_ n2_ n3_ n4_; clear hb hbox hg; have hcz8_0 : w7.cell? ⟨gb102, 0, none⟩ = some (.int .i64 0) := (blk_cell BK102.out 0).trans rfl; have hcz8_1 : w7.cell? ⟨gb102, 1, none⟩ = some (.int .i64 0) := (blk_cell BK102.out 1).trans rfl; have hfz8_0 := blk_frozen BK102.out 0; have hfz8_1 := blk_frozen BK102.out 1)); go_upto_block 2 with (first | ((with_reducible refine gate_dst (N := 8) rfl ?_); refine box_event ?hg (N := 8) ?hd (cs := #[.int .i64 0, .int .i64 0]) (t := 26) ?hr ?_; (case hd => rfl); (case hg => rfl); (case hr => first | (go_simp; done) | (go_simp; rfl)); intro gb102 hg w7 hbox hb; have n0_ := Aside0.mk (Kd.V_below (Kd.V_elderB (by (with_reducible repeat (first | apply Kd.V_alloc | apply Kd.V_drewN | apply Kd.V_drew)); exact HO_1.out) gb102 (Nat.le_of_eq hg.symm)) hb); have n1_ := Aside0.mk (below_step (by repeat (first | (with_reducible first | exact HB.out | apply below_alloc | apply pw_below_drewN | apply below_drew1) | exact HB.out)) hb); have n2_ := Aside0.mk (hbox); have n3_ := Aside0.mk ((by rw [hg]; exact (below_size (by repeat (first | (with_reducible first | exact HB.out | apply below_alloc | apply pw_below_drewN | apply below_drew1) | exact HB.out))) : w.heap.size ≤ gb102)); have n4_ := Aside0.mk ((by rw [hg]; exact (below_size (by repeat (first | (with_reducible first | exact HB.out | apply below_alloc | apply pw_below_drewN | apply below_drew1) | exact HB.out))) : w.heap.size ≤ gb102)); clear HO_1; clear HB; have HO_1 := n0_; have HB := n1_; have BK102 := n2_; have GW102 := n3_; have GE102 := n4_; clear n0_ n1_ n2_ n3_ n4_; clear hb hbox hg; have hcz8_0 : w7.cell? ⟨gb102, 0, none⟩ = some (.int .i64 0) := (blk_cell BK102.out 0).trans rfl; have hcz8_1 : w7.cell? ⟨gb102, 1, none⟩ = some (.int .i64 0) := (blk_cell BK102.out 1).trans rfl; have hfz8_0 := blk_frozen BK102.out 0; have hfz8_1 := blk_frozen BK102.out 1)))
      (try simp only [Act.put, List.setIfInBounds_toArray, List.set_cons_zero, List.set_cons_succ])
      go_cut [1] (fun v1 wc => ∃ (kq : Nat) (x1_5 : List (S26)), Aside0 (reset_less_int64.j2 kq x1_5 0 l0 (l0.length : Int) x12_1 ((rd_T26 l0 x12_1).f0) ((rd_T26 l0 x12_1).f1) = some (r1, r2)) ∧ Aside0 (kq ≤ k1) ∧ Aside0 (Kd.V k26 26 wc w.heap.size (fun k_ => (P1_ k_ ∨ w.heap.size ≤ k_) ∧ k_ ≠ gb102) v1 x1_5) ∧ Aside0 (wc.heap[gb102]? = some (.cells #[.int .i64 ((rd_T26 l0 x12_1).f0), .int .i64 ((rd_T26 l0 x12_1).f1)] 26 (0, 0))) ∧ Aside0 (Below w.heap.size w wc))
      case first =>
       have H := HC6.out
       clear HC6
       have H' := Aside0.mk H
       clear H
       go_wp2
       repeat (go_quiet (fail); try go_wp2)
       go_loopg [1] k1 (fun kq v1 w' => ∃ (x1_2 : List (S26)), Aside0 (reset_less_int64.l1 kq x1_2 0 l0 (l0.length : Int) x12_1 ((rd_T26 l0 x12_1).f0) ((rd_T26 l0 x12_1).f1) = some (r1, r2)) ∧ Aside0 (kq ≤ k1) ∧ Aside0 (Kd.V k26 26 w' w.heap.size (fun k_ => (P1_ k_ ∨ w.heap.size ≤ k_) ∧ k_ ≠ gb102) v1 x1_2) ∧ Aside0 (w'.heap[gb102]? = some (.cells #[.int .i64 ((rd_T26 l0 x12_1).f0), .int .i64 ((rd_T26 l0 x12_1).f1)] 26 (0, 0))) ∧ Aside0 (Below w.heap.size w w'))
       case atStart => exact ⟨(x1_1), H', ⟨Nat.le_refl _⟩, ⟨by (with_reducible repeat (first | apply Kd.V_alloc | apply Kd.V_drewN | apply Kd.V_drew)); exact Kd.V_mono (Kd.V_far (p := ⟨gb102, 1, none⟩) (Kd.V_far (p := ⟨gb102, 0, none⟩) (Kd.V_mono HO_1.out (fun k_ hk => (⟨hk, hk.2⟩ : _ ∧ k_ ≠ gb102))) (fun _ hk => hk.2) (.int .i64 ((rd_T26 l0 x12_1).f0))) (fun _ hk => hk.2) (.int .i64 ((rd_T26 l0 x12_1).f1))) (fun _ hk => ⟨hk.1.1, hk.1.2⟩)⟩, ⟨by (with_reducible repeat (first | refine blk_drewN ?_ _ | refine blk_drew ?_ | refine blk_alloc ?_ _)); refine blk_put (cs := #[.int .i64 ((rd_T26 l0 x12_1).f0), .int .i64 0]) ?_ 1 _ rfl; (with_reducible repeat (first | refine blk_drewN ?_ _ | refine blk_drew ?_ | refine blk_alloc ?_ _)); refine blk_put (cs := #[.int .i64 0, .int .i64 0]) ?_ 0 _ rfl; (with_reducible repeat (first | refine blk_drewN ?_ _ | refine blk_drew ?_ | refine blk_alloc ?_ _)); exact BK102.out⟩, ⟨by repeat (first | (with_reducible first | exact HB.out | apply below_alloc | apply pw_below_drewN | apply below_drew1 | refine below_set ?_ GE102.out) | exact HB.out)⟩⟩
       case round =>
        clear H'
        try clear c1
        try clear p1
        try clear q1
        try clear hx1
        try clear p2
        try clear c3
        try clear c3b0
        try clear c4
        try clear c4b0
        try clear c5
        try clear c5b0
        try clear hcz8_0
        try clear hcz8_1
        try clear hfz8_0
        try clear hfz8_1
        try clear hx101_0
        try clear hx101_1
        try clear p101
        try clear p2
        try clear q101
        obtain ⟨x1_2, HA, HK2, HO_1, BK102, HB⟩ := hrel
        cases gk with
        | zero => exact absurd HA.out (by simp [reset_less_int64.l1])
        | succ k2 =>
         have H := HA.out
         clear HA
         simp only [reset_less_int64.l1] at H
         by_cases c9 : (x1_2.length : Int) > 0
         ·rw [if_pos c9] at H
          have c9b0 : decide (0 < (x1_2.length : Int)) = true := decide_eq_true c9
          have c9b1 : decide (0 < x1_2.length) = true := decide_eq_true (by omega)
          clear c9
          (first | rw [c9b0] | (simp only [i64_w, i32_w]; rw [c9b0]) | skip)
          by_cases c10 : 0 < (x1_2.length : Int)
          ·rw [if_pos c10] at H
           have c10b0 : decide (0 < (x1_2.length : Int)) = true := decide_eq_true c10
           have c10b1 : decide (0 < x1_2.length) = true := decide_eq_true (by omega)
           clear c10
           by_cases c11 : ((rd_T26 x1_2 0).f0) < ((rd_T26 l0 x12_1).f0)
           ·rw [if_pos c11] at H
            have c11b0 : decide (((rd_T26 x1_2 0).f0) < ((rd_T26 l0 x12_1).f0)) = true := decide_eq_true c11
            clear c11
            by_cases c12 : 1 ≤ (x1_2.length : Int)
            ·rw [if_pos c12] at H
             have c12b0 := eq_true c12
             have c12b1 : decide (1 ≤ (x1_2.length : Int)) = true := decide_eq_true c12
             clear c12
             obtain ⟨y104, hy104⟩ : ∃ y_ : List (S26), y_ = (x1_2.drop 1) := ⟨_, rfl⟩
             replace H : (reset_less_int64.l1 k2 y104 0 l0 (l0.length : Int) x12_1 ((rd_T26 l0 x12_1).f0) ((rd_T26 l0 x12_1).f1)) = some (r1, r2) := by first | (rw [hy104]; with_reducible exact H) | (have H2_ := (Option.bind_some _ _).symm.trans H; rw [hy104]; with_reducible exact H2_) | (have H2_ := (Option.bind_some _ _).symm.trans H; with_reducible exact H2_) | with_reducible exact H | (rw [hy104]; exact H) | exact H
             have Ny104 := Aside0.mk hy104
             clear hy104
             have H' := Aside0.mk H
             clear H
             obtain ⟨Ao13, co13, eo13⟩ := Kd.V_slice HO_1.out
             subst eo13
             have p103 : 0 ≤ (0 : Int) := (by omega)
             have q103 : 0 < (x1_2.length : Int) := of_decide_eq_true (by first | (with_reducible assumption) | assumption)
             obtain ⟨ad103, e103, hx103_0, hx103_1⟩ := at_T26 (Kd.V_reads' HO_1.out).2.2 0 p103 q103
             cases e103
             have qi103 : (0 < x1_2.length) = True := eq_true (by omega)
             (try rw [show ((0 : Int)).toNat = 0 from rfl] at hx103_0)
             (try rw [show 0 * 2 = 0 from rfl] at hx103_0)
             (try rw [Addr.add_zero'] at hx103_0)
             (try rw [show ((0 : Int)).toNat = 0 from rfl] at hx103_1)
             (try rw [show 0 * 2 = 0 from rfl] at hx103_1)
             (try rw [Addr.add_zero'] at hx103_1)
             replace p103 := eq_true p103
             replace q103 := eq_true q103
             have hcz14_0 : wr.cell? ⟨gb102, 0, none⟩ = some (.int .i64 ((rd_T26 l0 x12_1).f0)) := (blk_cell BK102.out 0).trans rfl
             have hcz14_1 : wr.cell? ⟨gb102, 1, none⟩ = some (.int .i64 ((rd_T26 l0 x12_1).f1)) := (blk_cell BK102.out 1).trans rfl
             have hfz14_0 := blk_frozen BK102.out 0
             have hfz14_1 := blk_frozen BK102.out 1
             have q15 : (1 : Int) ≤ ((x1_2.length : Int) : Int) := of_decide_eq_true (by first | (with_reducible assumption) | assumption)
             obtain ⟨i015, hi015, _, hsz15, _⟩ := info_parts info26
             have hroom15 : x1_2.length ≤ co13 := (Kd.V_reads' HO_1.out).2.1
             have hC15 : Kd.F k26 _ _ (some ad103) x1_2.length x1_2 := (Kd.V_at (base := w.heap.size) HO_1.out).2.2
             have hcut15 := cut_from (P := Try.prog) 22 26 .i64 Try.underlying22 hi015 2 hsz15 (some ad103) x1_2.length co13 1 (by omega) q15
             have hr15 := Kd.F_cut (m := (1 : Int).toNat) (c := co13) hC15 (by omega) hroom15
             obtain ⟨A15, hA15⟩ : ∃ A1, A1 = (if co13 = (1 : Int).toNat then (some ad103) else ((some ad103) : Option Addr).map (·.add ((1 : Int).toNat * 2))) := ⟨_, rfl⟩
             obtain ⟨c15, hc15⟩ : ∃ c1, c1 = co13 - (1 : Int).toNat := ⟨_, rfl⟩
             have hy15 : y104.length = x1_2.length - (1 : Int).toNat := (by rw [Ny104.out, List.length_drop] <;> omega)
             rw [show (x1_2).drop (1 : Int).toNat = y104 from Ny104.out.symm] at hr15
             replace hr15 : Kd.F k26 _ _ A15 y104.length y104 := (by rw [hA15]; exact hr15)
             rw [← hy15, ← hA15, ← hc15] at hcut15
             have HO108 := Aside0.mk (show Kd.V k26 26 _ w.heap.size _ (.slice A15 y104.length c15) y104 from Kd.V_mk (by rw [hy15, hc15]; exact Nat.sub_le_sub_right hroom15 _) hr15)
             have HC108 := Aside0.mk (show y104.length ≤ c15 from by rw [hy15, hc15]; exact Nat.sub_le_sub_right hroom15 _)
             clear hr15 hC15 hroom15 hi015 hsz15 hc15
             have KY15 := Aside0.mk hy15
             have KA15 := Aside0.mk hA15
             clear hy15 hA15
             replace q15 := eq_true q15
             go_wp2
             repeat (go_quiet (fail); try go_wp2)
             go_roundg k2
             case measure => have := HK1.out; have := HK2.out; omega
             case rel => exact ⟨(y104), H', ⟨by have := HK1.out; have := HK2.out; omega⟩, ⟨by (with_reducible repeat (first | apply Kd.V_alloc | apply Kd.V_drewN | apply Kd.V_drew)); exact HO108.out⟩, ⟨by (with_reducible repeat (first | refine blk_drewN ?_ _ | refine blk_drew ?_ | refine blk_alloc ?_ _)); exact BK102.out⟩, ⟨by repeat (first | (with_reducible first | exact HB.out | apply below_alloc | apply pw_below_drewN | apply below_drew1 | refine below_set ?_ GE102.out) | exact HB.out)⟩⟩
            ·rw [if_neg c12] at H
             exact absurd H (by simp)
           ·rw [if_neg c11] at H
            have c11b0 : decide (((rd_T26 x1_2 0).f0) < ((rd_T26 l0 x12_1).f0)) = false := decide_eq_false c11
            clear c11
            have H' := Aside0.mk H
            clear H
            obtain ⟨Ao16, co16, eo16⟩ := Kd.V_slice HO_1.out
            subst eo16
            have p103 : 0 ≤ (0 : Int) := (by omega)
            have q103 : 0 < (x1_2.length : Int) := of_decide_eq_true (by first | (with_reducible assumption) | assumption)
            obtain ⟨ad103, e103, hx103_0, hx103_1⟩ := at_T26 (Kd.V_reads' HO_1.out).2.2 0 p103 q103
            cases e103
            have qi103 : (0 < x1_2.length) = True := eq_true (by omega)
            (try rw [show ((0 : Int)).toNat = 0 from rfl] at hx103_0)
            (try rw [show 0 * 2 = 0 from rfl] at hx103_0)
            (try rw [Addr.add_zero'] at hx103_0)
            (try rw [show ((0 : Int)).toNat = 0 from rfl] at hx103_1)
            (try rw [show 0 * 2 = 0 from rfl] at hx103_1)
            (try rw [Addr.add_zero'] at hx103_1)
            replace p103 := eq_true p103
            replace q103 := eq_true q103
            have hcz17_0 : wr.cell? ⟨gb102, 0, none⟩ = some (.int .i64 ((rd_T26 l0 x12_1).f0)) := (blk_cell BK102.out 0).trans rfl
            have hcz17_1 : wr.cell? ⟨gb102, 1, none⟩ = some (.int .i64 ((rd_T26 l0 x12_1).f1)) := (blk_cell BK102.out 1).trans rfl
            have hfz17_0 := blk_frozen BK102.out 0
            have hfz17_1 := blk_frozen BK102.out 1
            go_wp2
            repeat (go_quiet (fail); try go_wp2)
            go_meet
            case rel => exact ⟨_, (x1_2), H', ⟨by have := HK1.out; have := HK2.out; first | omega | exact Nat.le_refl _⟩, ⟨by (with_reducible repeat (first | apply Kd.V_alloc | apply Kd.V_drewN | apply Kd.V_drew)); exact HO_1.out⟩, ⟨by (with_reducible repeat (first | refine blk_drewN ?_ _ | refine blk_drew ?_ | refine blk_alloc ?_ _)); exact BK102.out⟩, ⟨by repeat (first | (with_reducible first | exact HB.out | apply below_alloc | apply pw_below_drewN | apply below_drew1 | refine below_set ?_ GE102.out) | exact HB.out)⟩⟩
          ·rw [if_neg c10] at H
           exact absurd H (by simp)
         ·rw [if_neg c9] at H
          have c9b0 : decide (0 < (x1_2.length : Int)) = false := decide_eq_false c9
          have c9b1 : decide (0 < x1_2.length) = false := decide_eq_false (by omega)
          clear c9
          (first | rw [c9b0] | (simp only [i64_w, i32_w]; rw [c9b0]) | skip)
          have H' := Aside0.mk H
          clear H
          obtain ⟨Ao18, co18, eo18⟩ := Kd.V_slice HO_1.out
          subst eo18
          go_wp2
          repeat (go_quiet (fail); try go_wp2)
          go_meet
          case rel => exact ⟨_, (x1_2), H', ⟨by have := HK1.out; have := HK2.out; first | omega | exact Nat.le_refl _⟩, ⟨by (with_reducible repeat (first | apply Kd.V_alloc | apply Kd.V_drewN | apply Kd.V_drew)); exact HO_1.out⟩, ⟨by (with_reducible repeat (first | refine blk_drewN ?_ _ | refine blk_drew ?_ | refine blk_alloc ?_ _)); exact BK102.out⟩, ⟨by repeat (first | (with_reducible first | exact HB.out | apply below_alloc | apply pw_below_drewN | apply below_drew1 | refine below_set ?_ GE102.out) | exact HB.out)⟩⟩
      case rest =>
       clear HC6
       try clear c1
       try clear p1
       try clear q1
       try clear hx1
       try clear qi1
       try clear p2
       try clear c3
       try clear c3b0
       try clear c4
       try clear c4b0
       try clear c5
       try clear c5b0
       try clear c9
       try clear c9b0
       try clear c9b1
       try clear c10
       try clear c10b0
       try clear c10b1
       try clear p10
       try clear q10
       try clear hx10
       try clear qi10
       try clear c11
       try clear c11b0
       try clear c12
       try clear c12b0
       try clear c12b1
       try clear c15
       try clear q15
       try clear c17
       try clear hcz14_0
       try clear hcz14_1
       try clear hcz17_0
       try clear hcz17_1
       try clear hcz8_0
       try clear hcz8_1
       try clear hfz14_0
       try clear hfz14_1
       try clear hfz17_0
       try clear hfz17_1
       try clear hfz8_0
       try clear hfz8_1
       try clear hx101_0
       try clear hx101_1
       try clear hx103_0
       try clear hx103_1
       try clear p1
       try clear p101
       try clear p103
       try clear p2
       try clear q1
       try clear q101
       try clear q103
       try clear q15
       obtain ⟨kq, x1_5, HA, HJ5, HO_1, BK102, HB⟩ := hcut
       cases kq with
       | zero => exact absurd HA.out (by simp [reset_less_int64.j2])
       | succ kj5 =>
        have H := HA.out
        clear HA
        simp only [reset_less_int64.j2] at H
        have HC19 := Aside0.mk H
        clear H
        go_upto_region 8 with (fail)
        repeat (go_quiet (fail); go_upto_region 8 with (fail))
        go_cut [42] (fun v42 wc => ∃ (kq : Nat) (x42_18 : Bool), v42 = .bool x42_18 ∧ Aside0 (reset_less_int64.j3 kq x1_5 0 0 l0 (l0.length : Int) x12_1 x42_18 ((rd_T26 l0 x12_1).f0) ((rd_T26 l0 x12_1).f1) = some (r1, r2)) ∧ Aside0 (kq ≤ kj5) ∧ Aside0 (Kd.V k26 26 wc w.heap.size (fun k_ => (P1_ k_ ∨ w.heap.size ≤ k_) ∧ k_ ≠ gb102) u1 x1_5) ∧ Aside0 (wc.heap[gb102]? = some (.cells #[.int .i64 ((rd_T26 l0 x12_1).f0), .int .i64 ((rd_T26 l0 x12_1).f1)] 26 (0, 0))) ∧ Aside0 (Below w.heap.size w wc))
        case first =>
         have H := HC19.out
         clear HC19
         by_cases c20 : (x1_5.length : Int) > 0
         ·rw [if_pos c20] at H
          have c20b0 : decide (0 < (x1_5.length : Int)) = true := decide_eq_true c20
          have c20b1 : decide (0 < x1_5.length) = true := decide_eq_true (by omega)
          clear c20
          (first | rw [c20b0] | (simp only [i64_w, i32_w]; rw [c20b0]) | skip)
          by_cases c21 : 0 < (x1_5.length : Int)
          ·rw [if_pos c21] at H
           have c21b0 : decide (0 < (x1_5.length : Int)) = true := decide_eq_true c21
           have c21b1 : decide (0 < x1_5.length) = true := decide_eq_true (by omega)
           clear c21
           have H' := Aside0.mk H
           clear H
           obtain ⟨Ao22, co22, eo22⟩ := Kd.V_slice HO_1.out
           subst eo22
           have p109 : 0 ≤ (0 : Int) := (by omega)
           have q109 : 0 < (x1_5.length : Int) := of_decide_eq_true (by first | (with_reducible assumption) | assumption)
           obtain ⟨ad109, e109, hx109_0, hx109_1⟩ := at_T26 (Kd.V_reads' HO_1.out).2.2 0 p109 q109
           cases e109
           have qi109 : (0 < x1_5.length) = True := eq_true (by omega)
           (try rw [show ((0 : Int)).toNat = 0 from rfl] at hx109_0)
           (try rw [show 0 * 2 = 0 from rfl] at hx109_0)
           (try rw [Addr.add_zero'] at hx109_0)
           (try rw [show ((0 : Int)).toNat = 0 from rfl] at hx109_1)
           (try rw [show 0 * 2 = 0 from rfl] at hx109_1)
           (try rw [Addr.add_zero'] at hx109_1)
           replace p109 := eq_true p109
           replace q109 := eq_true q109
           have hcz23_0 : wc.cell? ⟨gb102, 0, none⟩ = some (.int .i64 ((rd_T26 l0 x12_1).f0)) := (blk_cell BK102.out 0).trans rfl
           have hcz23_1 : wc.cell? ⟨gb102, 1, none⟩ = some (.int .i64 ((rd_T26 l0 x12_1).f1)) := (blk_cell BK102.out 1).trans rfl
           have hfz23_0 := blk_frozen BK102.out 0
           have hfz23_1 := blk_frozen BK102.out 1
           go_wp2
           repeat (go_quiet (fail); try go_wp2)
           go_meet
           case rel => exact ⟨_, ((((rd_T26 x1_5 0).f0) == ((rd_T26 l0 x12_1).f0))), (by first | rfl | (simp; done) | (simp [*]; done)), H', ⟨by have := HK1.out; have := HJ5.out; first | omega | exact Nat.le_refl _⟩, ⟨by (with_reducible repeat (first | apply Kd.V_alloc | apply Kd.V_drewN | apply Kd.V_drew)); exact HO_1.out⟩, ⟨by (with_reducible repeat (first | refine blk_drewN ?_ _ | refine blk_drew ?_ | refine blk_alloc ?_ _)); exact BK102.out⟩, ⟨by repeat (first | (with_reducible first | exact HB.out | apply below_alloc | apply pw_below_drewN | apply below_drew1 | refine below_set ?_ GE102.out) | exact HB.out)⟩⟩
          ·rw [if_neg c21] at H
           exact absurd H (by simp)
         ·rw [if_neg c20] at H
          have c20b0 : decide (0 < (x1_5.length : Int)) = false := decide_eq_false c20
          have c20b1 : decide (0 < x1_5.length) = false := decide_eq_false (by omega)
          clear c20
          (first | rw [c20b0] | (simp only [i64_w, i32_w]; rw [c20b0]) | skip)
          have H' := Aside0.mk H
          clear H
          obtain ⟨Ao24, co24, eo24⟩ := Kd.V_slice HO_1.out
          subst eo24
          go_wp2
          repeat (go_quiet (fail); try go_wp2)
          go_meet
          case rel => exact ⟨_, (false), (by first | rfl | (simp; done) | (simp [*]; done)), H', ⟨by have := HK1.out; have := HJ5.out; first | omega | exact Nat.le_refl _⟩, ⟨by (with_reducible repeat (first | apply Kd.V_alloc | apply Kd.V_drewN | apply Kd.V_drew)); exact HO_1.out⟩, ⟨by (with_reducible repeat (first | refine blk_drewN ?_ _ | refine blk_drew ?_ | refine blk_alloc ?_ _)); exact BK102.out⟩, ⟨by repeat (first | (with_reducible first | exact HB.out | apply below_alloc | apply pw_below_drewN | apply below_drew1 | refine below_set ?_ GE102.out) | exact HB.out)⟩⟩
        case rest =>
         clear HC19
         try clear c1
         try clear p1
         try clear q1
         try clear hx1
         try clear qi1
         try clear c2
         try clear p2
         try clear c3
         try clear c3b0
         try clear c4
         try clear c4b0
         try clear c5
         try clear c5b0
         try clear c9
         try clear c9b0
         try clear c9b1
         try clear c10
         try clear c10b0
         try clear c10b1
         try clear p10
         try clear q10
         try clear hx10
         try clear qi10
         try clear c11
         try clear c11b0
         try clear c12
         try clear c12b0
         try clear c12b1
         try clear c15
         try clear q15
         try clear c17
         try clear c20
         try clear c20b0
         try clear c20b1
         try clear c21
         try clear c21b0
         try clear c21b1
         try clear hcz14_0
         try clear hcz14_1
         try clear hcz17_0
         try clear hcz17_1
         try clear hcz23_0
         try clear hcz23_1
         try clear hcz8_0
         try clear hcz8_1
         try clear hfz14_0
         try clear hfz14_1
         try clear hfz17_0
         try clear hfz17_1
         try clear hfz23_0
         try clear hfz23_1
         try clear hfz8_0
         try clear hfz8_1
         try clear hx101_0
         try clear hx101_1
         try clear hx103_0
         try clear hx103_1
         try clear hx109_0
         try clear hx109_1
         try clear p1
         try clear p10
         try clear p101
         try clear p103
         try clear p109
         try clear p2
         try clear q1
         try clear q10
         try clear q101
         try clear q103
         try clear q109
         try clear q15
         obtain ⟨kq, x42_18, rfl, HA, HJ18, HO_1, BK102, HB⟩ := hcut
         cases kq with
         | zero => exact absurd HA.out (by simp [reset_less_int64.j3])
         | succ kj18 =>
          have H := HA.out
          clear HA
          simp only [reset_less_int64.j3] at H
          by_cases c25 : x42_18 = true
          ·subst c25
           have H1 : (if 0 < (x1_5.length : Int) then (if ((rd_T26 x1_5 0).f1) < ((rd_T26 l0 x12_1).f1) then (some (((rd_T26 l0 x12_1).f0), true)) else (reset_less_int64.l0 kj18 x1_5 0 l0 (l0.length : Int) (wrap64 (x12_1 + 1)))) else (none)) = some (r1, r2) := by rw [if_pos rfl] at H; exact H
           clear H
           have H := H1
           clear H1
           by_cases c26 : 0 < (x1_5.length : Int)
           ·rw [if_pos c26] at H
            have c26b0 : decide (0 < (x1_5.length : Int)) = true := decide_eq_true c26
            have c26b1 : decide (0 < x1_5.length) = true := decide_eq_true (by omega)
            clear c26
            by_cases c27 : ((rd_T26 x1_5 0).f1) < ((rd_T26 l0 x12_1).f1)
            ·rw [if_pos c27] at H
             have c27b0 : decide (((rd_T26 x1_5 0).f1) < ((rd_T26 l0 x12_1).f1)) = true := decide_eq_true c27
             clear c27
             simp only [Option.some.injEq, Prod.mk.injEq] at H
             obtain ⟨rfl, rfl⟩ := H
             obtain ⟨Ao28, co28, eo28⟩ := Kd.V_slice HO_1.out
             subst eo28
             have p110 : 0 ≤ (0 : Int) := (by omega)
             have q110 : 0 < (x1_5.length : Int) := of_decide_eq_true (by first | (with_reducible assumption) | assumption)
             obtain ⟨ad110, e110, hx110_0, hx110_1⟩ := at_T26 (Kd.V_reads' HO_1.out).2.2 0 p110 q110
             cases e110
             have qi110 : (0 < x1_5.length) = True := eq_true (by omega)
             (try rw [show ((0 : Int)).toNat = 0 from rfl] at hx110_0)
             (try rw [show 0 * 2 = 0 from rfl] at hx110_0)
             (try rw [Addr.add_zero'] at hx110_0)
             (try rw [show ((0 : Int)).toNat = 0 from rfl] at hx110_1)
             (try rw [show 0 * 2 = 0 from rfl] at hx110_1)
             (try rw [Addr.add_zero'] at hx110_1)
             replace p110 := eq_true p110
             replace q110 := eq_true q110
             have hcz29_0 : wc.cell? ⟨gb102, 0, none⟩ = some (.int .i64 ((rd_T26 l0 x12_1).f0)) := (blk_cell BK102.out 0).trans rfl
             have hcz29_1 : wc.cell? ⟨gb102, 1, none⟩ = some (.int .i64 ((rd_T26 l0 x12_1).f1)) := (blk_cell BK102.out 1).trans rfl
             have hfz29_0 := blk_frozen BK102.out 0
             have hfz29_1 := blk_frozen BK102.out 1
             go_wp2
             repeat (go_quiet (fail); try go_wp2)
             go_ret2
             exact ⟨by first | rfl | (simp [errW_none, errW_some] <;> rfl) | (simp [*, errW_none, errW_some] <;> rfl), by repeat (first | (with_reducible first | exact HB.out | apply below_alloc | apply pw_below_drewN | apply below_drew1 | refine below_set ?_ GE102.out) | exact HB.out)⟩
            ·rw [if_neg c27] at H
             have c27b0 : decide (((rd_T26 x1_5 0).f1) < ((rd_T26 l0 x12_1).f1)) = false := decide_eq_false c27
             clear c27
             have H' := Aside0.mk H
             clear H
             obtain ⟨Ao30, co30, eo30⟩ := Kd.V_slice HO_1.out
             subst eo30
             have p110 : 0 ≤ (0 : Int) := (by omega)
             have q110 : 0 < (x1_5.length : Int) := of_decide_eq_true (by first | (with_reducible assumption) | assumption)
             obtain ⟨ad110, e110, hx110_0, hx110_1⟩ := at_T26 (Kd.V_reads' HO_1.out).2.2 0 p110 q110
             cases e110
             have qi110 : (0 < x1_5.length) = True := eq_true (by omega)
             (try rw [show ((0 : Int)).toNat = 0 from rfl] at hx110_0)
             (try rw [show 0 * 2 = 0 from rfl] at hx110_0)
             (try rw [Addr.add_zero'] at hx110_0)
             (try rw [show ((0 : Int)).toNat = 0 from rfl] at hx110_1)
             (try rw [show 0 * 2 = 0 from rfl] at hx110_1)
             (try rw [Addr.add_zero'] at hx110_1)
             replace p110 := eq_true p110
             replace q110 := eq_true q110
             have hcz31_0 : wc.cell? ⟨gb102, 0, none⟩ = some (.int .i64 ((rd_T26 l0 x12_1).f0)) := (blk_cell BK102.out 0).trans rfl
             have hcz31_1 : wc.cell? ⟨gb102, 1, none⟩ = some (.int .i64 ((rd_T26 l0 x12_1).f1)) := (blk_cell BK102.out 1).trans rfl
             have hfz31_0 := blk_frozen BK102.out 0
             have hfz31_1 := blk_frozen BK102.out 1
             go_wp2
             repeat (go_quiet (fail); try go_wp2)
             go_roundg kj18
             case measure => have := HK1.out; have := HJ5.out; have := HJ18.out; omega
             case rel => exact ⟨(x1_5), (wrap64 (x12_1 + 1)), (by first | rfl | (simp; done) | (simp [*]; done)), H', ⟨by have := HK1.out; have := HJ5.out; have := HJ18.out; omega⟩, ⟨by (with_reducible repeat (first | apply Kd.V_alloc | apply Kd.V_drewN | apply Kd.V_drew)); exact Kd.V_mono HO_1.out (fun _ hk => hk.1)⟩, ⟨by repeat (first | (with_reducible first | exact HB.out | apply below_alloc | apply pw_below_drewN | apply below_drew1 | refine below_set ?_ GE102.out) | exact HB.out)⟩⟩
           ·rw [if_neg c26] at H
            exact absurd H (by simp)
          ·replace c25 := Bool.eq_false_iff.mpr c25
           subst c25
           have H1 : (if 0 < ((rd_T26 l0 x12_1).f1) then (some (((rd_T26 l0 x12_1).f0), true)) else (reset_less_int64.l0 kj18 x1_5 0 l0 (l0.length : Int) (wrap64 (x12_1 + 1)))) = some (r1, r2) := by rw [if_neg (show ¬ (false = true) by decide)] at H; exact H
           clear H
           have H := H1
           clear H1
           by_cases c32 : 0 < ((rd_T26 l0 x12_1).f1)
           ·rw [if_pos c32] at H
            have c32b0 : decide (0 < ((rd_T26 l0 x12_1).f1)) = true := decide_eq_true c32
            clear c32
            simp only [Option.some.injEq, Prod.mk.injEq] at H
            obtain ⟨rfl, rfl⟩ := H
            have hcz33_0 : wc.cell? ⟨gb102, 0, none⟩ = some (.int .i64 ((rd_T26 l0 x12_1).f0)) := (blk_cell BK102.out 0).trans rfl
            have hcz33_1 : wc.cell? ⟨gb102, 1, none⟩ = some (.int .i64 ((rd_T26 l0 x12_1).f1)) := (blk_cell BK102.out 1).trans rfl
            have hfz33_0 := blk_frozen BK102.out 0
            have hfz33_1 := blk_frozen BK102.out 1
            go_wp2
            repeat (go_quiet (fail); try go_wp2)
            go_ret2
            exact ⟨by first | rfl | (simp [errW_none, errW_some] <;> rfl) | (simp [*, errW_none, errW_some] <;> rfl), by repeat (first | (with_reducible first | exact HB.out | apply below_alloc | apply pw_below_drewN | apply below_drew1 | refine below_set ?_ GE102.out) | exact HB.out)⟩
           ·rw [if_neg c32] at H
            have c32b0 : decide (0 < ((rd_T26 l0 x12_1).f1)) = false := decide_eq_false c32
            clear c32
            have H' := Aside0.mk H
            clear H
            have hcz34_0 : wc.cell? ⟨gb102, 0, none⟩ = some (.int .i64 ((rd_T26 l0 x12_1).f0)) := (blk_cell BK102.out 0).trans rfl
            have hcz34_1 : wc.cell? ⟨gb102, 1, none⟩ = some (.int .i64 ((rd_T26 l0 x12_1).f1)) := (blk_cell BK102.out 1).trans rfl
            have hfz34_0 := blk_frozen BK102.out 0
            have hfz34_1 := blk_frozen BK102.out 1
            go_wp2
            repeat (go_quiet (fail); try go_wp2)
            go_roundg kj18
            case measure => have := HK1.out; have := HJ5.out; have := HJ18.out; omega
            case rel => exact ⟨(x1_5), (wrap64 (x12_1 + 1)), (by first | rfl | (simp; done) | (simp [*]; done)), H', ⟨by have := HK1.out; have := HJ5.out; have := HJ18.out; omega⟩, ⟨by (with_reducible repeat (first | apply Kd.V_alloc | apply Kd.V_drewN | apply Kd.V_drew)); exact Kd.V_mono HO_1.out (fun _ hk => hk.1)⟩, ⟨by repeat (first | (with_reducible first | exact HB.out | apply below_alloc | apply pw_below_drewN | apply below_drew1 | refine below_set ?_ GE102.out) | exact HB.out)⟩⟩
     ·rw [if_neg c5] at H
      exact absurd H (by simp)
    ·rw [if_neg c4] at H
     exact absurd H (by simp)
   ·rw [if_neg c3] at H
    have c3b0 : decide (x12_1 < (l0.length : Int)) = false := decide_eq_false c3
    clear c3
    simp only [Option.some.injEq, Prod.mk.injEq] at H
    obtain ⟨rfl, rfl⟩ := H
    go_wp2
    repeat (go_quiet (fail); try go_wp2)
    go_ret2
    exact ⟨by first | rfl | (simp [errW_none, errW_some] <;> rfl) | (simp [*, errW_none, errW_some] <;> rfl), by repeat (first | (with_reducible first | exact HB.out | apply below_alloc | apply pw_below_drewN | apply below_drew1) | exact HB.out)⟩
def reset_heads.f (a0_0 : Int) (a0_1 : Int) (a0_2 : Int) (a0_3 : Int) (a1_0 : Int) (a1_1 : Int) (a1_2 : Int) (a1_3 : Int) : Option (Int) := if a0_0 = a1_0 then (if a0_1 = a1_1 then (if a1_2 < a0_2 then (some 3) else (if a1_3 < a0_3 then (some 4) else (some 0))) else (some 2)) else (some 1)
set_option maxHeartbeats 8000000 in
set_option maxRecDepth 100000 in
theorem reset_heads.calls (a0_0 : Int) (a0_1 : Int) (a0_2 : Int) (a0_3 : Int) (a1_0 : Int) (a1_1 : Int) (a1_2 : Int) (a1_3 : Int) (r : Int) (w : World) (h : reset_heads.f a0_0 a0_1 a0_2 a0_3 a1_0 a1_1 a1_2 a1_3 = some r) :
  Calls Try.prog 137 #[.agg #[.int .i64 a0_0, .int .u64 a0_1, .int .u64 a0_2, .int .u64 a0_3], .agg #[.int .i64 a1_0, .int .u64 a1_1, .int .u64 a1_2, .int .u64 a1_3]] w fun e w' => e = .returned (.int .i64 r) ∧ Below w.heap.size w w' := by
 have hu164 := Try.underlying164
 have HB := Aside0.mk (Below.refl w.heap.size w)
 have H : (if a0_0 = a1_0 then (if a0_1 = a1_1 then (if a1_2 < a0_2 then (some 3) else (if a1_3 < a0_3 then (some 4) else (some 0))) else (some 2)) else (some 1)) = some r := h
 clear h
 by_cases c3 : a0_0 = a1_0
 ·rw [if_pos c3] at H
  have c3b0 : (a0_0 == a1_0) = true := beq_iff_eq.mpr c3
  have c3b1 : (a0_0 != a1_0) = false := bne_eq_false_iff_eq.mpr c3
  clear c3
  by_cases c4 : a0_1 = a1_1
  ·rw [if_pos c4] at H
   have c4b0 : (a0_1 == a1_1) = true := beq_iff_eq.mpr c4
   have c4b1 : (a0_1 != a1_1) = false := bne_eq_false_iff_eq.mpr c4
   clear c4
   by_cases c5 : a1_2 < a0_2
   ·rw [if_pos c5] at H
    have c5b0 : decide (a1_2 < a0_2) = true := decide_eq_true c5
    clear c5
    obtain rfl := Option.some.inj H
    go_enter Try.func137, Try.ntmps137
    go_wp2_with (first | ((with_reducible refine gate_dst (N := 2) rfl ?_); refine box_event ?hg (N := 2) ?hd (cs := #[.int .i64 a0_0, .int .u64 a0_1, .int .u64 a0_2, .int .u64 a0_3]) (t := 164) ?hr ?_; (case hd => rfl); (case hg => rfl); (case hr => first | (go_simp; done) | (go_simp; rfl)); intro gb101 hg w6 hbox hb; have n0_ := Aside0.mk (below_step (by repeat (first | (with_reducible first | exact HB.out | apply below_alloc | apply pw_below_drewN | apply below_drew1) | exact HB.out)) hb); have n1_ := Aside0.mk (hbox); have n2_ := Aside0.mk ((by rw [hg]; exact (below_size (by repeat (first | (with_reducible first | exact HB.out | apply below_alloc | apply pw_below_drewN | apply below_drew1) | exact HB.out))) : w.heap.size ≤ gb101)); have n3_ := Aside0.mk ((by rw [hg]; exact (below_size (by repeat (first | (with_reducible first | exact HB.out | apply below_alloc | apply pw_below_drewN | apply below_drew1) | exact HB.out))) : w.heap.size ≤ gb101)); clear HB; have HB := n0_; have BK101 := n1_; have GW101 := n2_; have GE101 := n3_; clear n0_ n1_ n2_ n3_; clear hb hbox hg) | ((with_reducible refine gate_dst (N := 3) rfl ?_); refine box_event ?hg (N := 3) ?hd (cs := #[.int .i64 a1_0, .int .u64 a1_1, .int .u64 a1_2, .int .u64 a1_3]) (t := 164) ?hr ?_; (case hd => rfl); (case hg => rfl); (case hr => first | (go_simp; done) | (go_simp; rfl)); intro gb102 hg w7 hbox hb; have n0_ := Aside0.mk (blk_below (g := gb101) (o := .cells #[.int .i64 a0_0, .int .u64 a0_1, .int .u64 a0_2, .int .u64 a0_3] 164 (0, 0)) (by (with_reducible repeat (first | refine blk_drewN ?_ _ | refine blk_drew ?_ | refine blk_alloc ?_ _)); exact BK101.out) hb); have n1_ := Aside0.mk (below_step (by repeat (first | (with_reducible first | exact HB.out | apply below_alloc | apply pw_below_drewN | apply below_drew1 | refine below_set ?_ GE101.out) | exact HB.out)) hb); have n2_ := Aside0.mk (hbox); have n3_ := Aside0.mk ((by rw [hg]; exact (below_size (by repeat (first | (with_reducible first | exact HB.out | apply below_alloc | apply pw_below_drewN | apply below_drew1 | refine below_set ?_ GE101.out) | exact HB.out))) : w.heap.size ≤ gb102)); have n4_ := Aside0.mk ((by rw [hg]; exact (below_size (by repeat (first | (with_reducible first | exact HB.out | apply below_alloc | apply pw_below_drewN | apply below_drew1 | refine below_set ?_ GE101.out) | exact HB.out))) : w.heap.size ≤ gb102)); have n5_ := Aside0.mk ((by rw [hg]; exact Nat.ne_of_lt (blk_lt (g := gb101) (o := .cells #[.int .i64 a0_0, .int .u64 a0_1, .int .u64 a0_2, .int .u64 a0_3] 164 (0, 0)) (by (with_reducible repeat (first | refine blk_drewN ?_ _ | refine blk_drew ?_ | refine blk_alloc ?_ _)); exact BK101.out)) : gb101 ≠ gb102)); have n6_ := Aside0.mk ((by rw [hg]; exact Nat.ne_of_gt (blk_lt (g := gb101) (o := .cells #[.int .i64 a0_0, .int .u64 a0_1, .int .u64 a0_2, .int .u64 a0_3] 164 (0, 0)) (by (with_reducible repeat (first | refine blk_drewN ?_ _ | refine blk_drew ?_ | refine blk_alloc ?_ _)); exact BK101.out)) : gb102 ≠ gb101)); clear BK101; clear HB; have BK101 := n0_; have HB := n1_; have BK102 := n2_; have GW102 := n3_; have GE102 := n4_; have NB101_102 := n5_; have NB102_101 := n6_; clear n0_ n1_ n2_ n3_ n4_ n5_ n6_; clear hb hbox hg; have hnb8 := NB101_102.out; have hnc8 := NB102_101.out; have hcz9_0 : w7.cell? ⟨gb101, 0, none⟩ = some (.int .i64 a0_0) := (blk_cell BK101.out 0).trans rfl; have hcz9_1 : w7.cell? ⟨gb101, 1, none⟩ = some (.int .u64 a0_1) := (blk_cell BK101.out 1).trans rfl; have hcz9_2 : w7.cell? ⟨gb101, 2, none⟩ = some (.int .u64 a0_2) := (blk_cell BK101.out 2).trans rfl; have hcz9_3 : w7.cell? ⟨gb101, 3, none⟩ = some (.int .u64 a0_3) := (blk_cell BK101.out 3).trans rfl; have hfz9_0 := blk_frozen BK101.out 0; have hfz9_1 := blk_frozen BK101.out 1; have hfz9_2 := blk_frozen BK101.out 2; have hfz9_3 := blk_frozen BK101.out 3; have hcz10_0 : w7.cell? ⟨gb102, 0, none⟩ = some (.int .i64 a1_0) := (blk_cell BK102.out 0).trans rfl; have hcz10_1 : w7.cell? ⟨gb102, 1, none⟩ = some (.int .u64 a1_1) := (blk_cell BK102.out 1).trans rfl; have hcz10_2 : w7.cell? ⟨gb102, 2, none⟩ = some (.int .u64 a1_2) := (blk_cell BK102.out 2).trans rfl; have hcz10_3 : w7.cell? ⟨gb102, 3, none⟩ = some (.int .u64 a1_3) := (blk_cell BK102.out 3).trans rfl; have hfz10_0 := blk_frozen BK102.out 0; have hfz10_1 := blk_frozen BK102.out 1; have hfz10_2 := blk_frozen BK102.out 2; have hfz10_3 := blk_frozen BK102.out 3))
    go_ret
    exact ⟨by first | rfl | (simp [errW_none, errW_some] <;> rfl) | (simp [*, errW_none, errW_some] <;> rfl), by repeat (first | (with_reducible first | exact HB.out | apply below_alloc | apply pw_below_drewN | apply below_drew1 | refine below_set ?_ GE101.out | refine below_set ?_ GE102.out) | exact HB.out)⟩
   ·rw [if_neg c5] at H
    have c5b0 : decide (a1_2 < a0_2) = false := decide_eq_false c5
    clear c5
    by_cases c11 : a1_3 < a0_3
    ·rw [if_pos c11] at H
     have c11b0 : decide (a1_3 < a0_3) = true := decide_eq_true c11
     clear c11
     obtain rfl := Option.some.inj H
     go_enter Try.func137, Try.ntmps137
     go_wp2_with (first | ((with_reducible refine gate_dst (N := 2) rfl ?_); refine box_event ?hg (N := 2) ?hd (cs := #[.int .i64 a0_0, .int .u64 a0_1, .int .u64 a0_2, .int .u64 a0_3]) (t := 164) ?hr ?_; (case hd => rfl); (case hg => rfl); (case hr => first | (go_simp; done) | (go_simp; rfl)); intro gb101 hg w12 hbox hb; have n0_ := Aside0.mk (below_step (by repeat (first | (with_reducible first | exact HB.out | apply below_alloc | apply pw_below_drewN | apply below_drew1) | exact HB.out)) hb); have n1_ := Aside0.mk (hbox); have n2_ := Aside0.mk ((by rw [hg]; exact (below_size (by repeat (first | (with_reducible first | exact HB.out | apply below_alloc | apply pw_below_drewN | apply below_drew1) | exact HB.out))) : w.heap.size ≤ gb101)); have n3_ := Aside0.mk ((by rw [hg]; exact (below_size (by repeat (first | (with_reducible first | exact HB.out | apply below_alloc | apply pw_below_drewN | apply below_drew1) | exact HB.out))) : w.heap.size ≤ gb101)); clear HB; have HB := n0_; have BK101 := n1_; have GW101 := n2_; have GE101 := n3_; clear n0_ n1_ n2_ n3_; clear hb hbox hg) | ((with_reducible refine gate_dst (N := 3) rfl ?_); refine box_event ?hg (N := 3) ?hd (cs := #[.int .i64 a1_0, .int .u64 a1_1, .int .u64 a1_2, .int .u64 a1_3]) (t := 164) ?hr ?_; (case hd => rfl); (case hg => rfl); (case hr => first | (go_simp; done) | (go_simp; rfl)); intro gb102 hg w13 hbox hb; have n0_ := Aside0.mk (blk_below (g := gb101) (o := .cells #[.int .i64 a0_0, .int .u64 a0_1, .int .u64 a0_2, .int .u64 a0_3] 164 (0, 0)) (by (with_reducible repeat (first | refine blk_drewN ?_ _ | refine blk_drew ?_ | refine blk_alloc ?_ _)); exact BK101.out) hb); have n1_ := Aside0.mk (below_step (by repeat (first | (with_reducible first | exact HB.out | apply below_alloc | apply pw_below_drewN | apply below_drew1 | refine below_set ?_ GE101.out) | exact HB.out)) hb); have n2_ := Aside0.mk (hbox); have n3_ := Aside0.mk ((by rw [hg]; exact (below_size (by repeat (first | (with_reducible first | exact HB.out | apply below_alloc | apply pw_below_drewN | apply below_drew1 | refine below_set ?_ GE101.out) | exact HB.out))) : w.heap.size ≤ gb102)); have n4_ := Aside0.mk ((by rw [hg]; exact (below_size (by repeat (first | (with_reducible first | exact HB.out | apply below_alloc | apply pw_below_drewN | apply below_drew1 | refine below_set ?_ GE101.out) | exact HB.out))) : w.heap.size ≤ gb102)); have n5_ := Aside0.mk ((by rw [hg]; exact Nat.ne_of_lt (blk_lt (g := gb101) (o := .cells #[.int .i64 a0_0, .int .u64 a0_1, .int .u64 a0_2, .int .u64 a0_3] 164 (0, 0)) (by (with_reducible repeat (first | refine blk_drewN ?_ _ | refine blk_drew ?_ | refine blk_alloc ?_ _)); exact BK101.out)) : gb101 ≠ gb102)); have n6_ := Aside0.mk ((by rw [hg]; exact Nat.ne_of_gt (blk_lt (g := gb101) (o := .cells #[.int .i64 a0_0, .int .u64 a0_1, .int .u64 a0_2, .int .u64 a0_3] 164 (0, 0)) (by (with_reducible repeat (first | refine blk_drewN ?_ _ | refine blk_drew ?_ | refine blk_alloc ?_ _)); exact BK101.out)) : gb102 ≠ gb101)); clear BK101; clear HB; have BK101 := n0_; have HB := n1_; have BK102 := n2_; have GW102 := n3_; have GE102 := n4_; have NB101_102 := n5_; have NB102_101 := n6_; clear n0_ n1_ n2_ n3_ n4_ n5_ n6_; clear hb hbox hg; have hnb14 := NB101_102.out; have hnc14 := NB102_101.out; have hcz15_0 : w13.cell? ⟨gb101, 0, none⟩ = some (.int .i64 a0_0) := (blk_cell BK101.out 0).trans rfl; have hcz15_1 : w13.cell? ⟨gb101, 1, none⟩ = some (.int .u64 a0_1) := (blk_cell BK101.out 1).trans rfl; have hcz15_2 : w13.cell? ⟨gb101, 2, none⟩ = some (.int .u64 a0_2) := (blk_cell BK101.out 2).trans rfl; have hcz15_3 : w13.cell? ⟨gb101, 3, none⟩ = some (.int .u64 a0_3) := (blk_cell BK101.out 3).trans rfl; have hfz15_0 := blk_frozen BK101.out 0; have hfz15_1 := blk_frozen BK101.out 1; have hfz15_2 := blk_frozen BK101.out 2; have hfz15_3 := blk_frozen BK101.out 3; have hcz16_0 : w13.cell? ⟨gb102, 0, none⟩ = some (.int .i64 a1_0) := (blk_cell BK102.out 0).trans rfl; have hcz16_1 : w13.cell? ⟨gb102, 1, none⟩ = some (.int .u64 a1_1) := (blk_cell BK102.out 1).trans rfl; have hcz16_2 : w13.cell? ⟨gb102, 2, none⟩ = some (.int .u64 a1_2) := (blk_cell BK102.out 2).trans rfl; have hcz16_3 : w13.cell? ⟨gb102, 3, none⟩ = some (.int .u64 a1_3) := (blk_cell BK102.out 3).trans rfl; have hfz16_0 := blk_frozen BK102.out 0; have hfz16_1 := blk_frozen BK102.out 1; have hfz16_2 := blk_frozen BK102.out 2; have hfz16_3 := blk_frozen BK102.out 3))
     go_ret
     exact ⟨by first | rfl | (simp [errW_none, errW_some] <;> rfl) | (simp [*, errW_none, errW_some] <;> rfl), by repeat (first | (with_reducible first | exact HB.out | apply below_alloc | apply pw_below_drewN | apply below_drew1 | refine below_set ?_ GE101.out | refine below_set ?_ GE102.out) | exact HB.out)⟩
    ·rw [if_neg c11] at H
     have c11b0 : decide (a1_3 < a0_3) = false := decide_eq_false c11
     clear c11
     obtain rfl := Option.some.inj H
     go_enter Try.func137, Try.ntmps137
     go_wp2_with (first | ((with_reducible refine gate_dst (N := 2) rfl ?_); refine box_event ?hg (N := 2) ?hd (cs := #[.int .i64 a0_0, .int .u64 a0_1, .int .u64 a0_2, .int .u64 a0_3]) (t := 164) ?hr ?_; (case hd => rfl); (case hg => rfl); (case hr => first | (go_simp; done) | (go_simp; rfl)); intro gb101 hg w17 hbox hb; have n0_ := Aside0.mk (below_step (by repeat (first | (with_reducible first | exact HB.out | apply below_alloc | apply pw_below_drewN | apply below_drew1) | exact HB.out)) hb); have n1_ := Aside0.mk (hbox); have n2_ := Aside0.mk ((by rw [hg]; exact (below_size (by repeat (first | (with_reducible first | exact HB.out | apply below_alloc | apply pw_below_drewN | apply below_drew1) | exact HB.out))) : w.heap.size ≤ gb101)); have n3_ := Aside0.mk ((by rw [hg]; exact (below_size (by repeat (first | (with_reducible first | exact HB.out | apply below_alloc | apply pw_below_drewN | apply below_drew1) | exact HB.out))) : w.heap.size ≤ gb101)); clear HB; have HB := n0_; have BK101 := n1_; have GW101 := n2_; have GE101 := n3_; clear n0_ n1_ n2_ n3_; clear hb hbox hg) | ((with_reducible refine gate_dst (N := 3) rfl ?_); refine box_event ?hg (N := 3) ?hd (cs := #[.int .i64 a1_0, .int .u64 a1_1, .int .u64 a1_2, .int .u64 a1_3]) (t := 164) ?hr ?_; (case hd => rfl); (case hg => rfl); (case hr => first | (go_simp; done) | (go_simp; rfl)); intro gb102 hg w18 hbox hb; have n0_ := Aside0.mk (blk_below (g := gb101) (o := .cells #[.int .i64 a0_0, .int .u64 a0_1, .int .u64 a0_2, .int .u64 a0_3] 164 (0, 0)) (by (with_reducible repeat (first | refine blk_drewN ?_ _ | refine blk_drew ?_ | refine blk_alloc ?_ _)); exact BK101.out) hb); have n1_ := Aside0.mk (below_step (by repeat (first | (with_reducible first | exact HB.out | apply below_alloc | apply pw_below_drewN | apply below_drew1 | refine below_set ?_ GE101.out) | exact HB.out)) hb); have n2_ := Aside0.mk (hbox); have n3_ := Aside0.mk ((by rw [hg]; exact (below_size (by repeat (first | (with_reducible first | exact HB.out | apply below_alloc | apply pw_below_drewN | apply below_drew1 | refine below_set ?_ GE101.out) | exact HB.out))) : w.heap.size ≤ gb102)); have n4_ := Aside0.mk ((by rw [hg]; exact (below_size (by repeat (first | (with_reducible first | exact HB.out | apply below_alloc | apply pw_below_drewN | apply below_drew1 | refine below_set ?_ GE101.out) | exact HB.out))) : w.heap.size ≤ gb102)); have n5_ := Aside0.mk ((by rw [hg]; exact Nat.ne_of_lt (blk_lt (g := gb101) (o := .cells #[.int .i64 a0_0, .int .u64 a0_1, .int .u64 a0_2, .int .u64 a0_3] 164 (0, 0)) (by (with_reducible repeat (first | refine blk_drewN ?_ _ | refine blk_drew ?_ | refine blk_alloc ?_ _)); exact BK101.out)) : gb101 ≠ gb102)); have n6_ := Aside0.mk ((by rw [hg]; exact Nat.ne_of_gt (blk_lt (g := gb101) (o := .cells #[.int .i64 a0_0, .int .u64 a0_1, .int .u64 a0_2, .int .u64 a0_3] 164 (0, 0)) (by (with_reducible repeat (first | refine blk_drewN ?_ _ | refine blk_drew ?_ | refine blk_alloc ?_ _)); exact BK101.out)) : gb102 ≠ gb101)); clear BK101; clear HB; have BK101 := n0_; have HB := n1_; have BK102 := n2_; have GW102 := n3_; have GE102 := n4_; have NB101_102 := n5_; have NB102_101 := n6_; clear n0_ n1_ n2_ n3_ n4_ n5_ n6_; clear hb hbox hg; have hnb19 := NB101_102.out; have hnc19 := NB102_101.out; have hcz20_0 : w18.cell? ⟨gb101, 0, none⟩ = some (.int .i64 a0_0) := (blk_cell BK101.out 0).trans rfl; have hcz20_1 : w18.cell? ⟨gb101, 1, none⟩ = some (.int .u64 a0_1) := (blk_cell BK101.out 1).trans rfl; have hcz20_2 : w18.cell? ⟨gb101, 2, none⟩ = some (.int .u64 a0_2) := (blk_cell BK101.out 2).trans rfl; have hcz20_3 : w18.cell? ⟨gb101, 3, none⟩ = some (.int .u64 a0_3) := (blk_cell BK101.out 3).trans rfl; have hfz20_0 := blk_frozen BK101.out 0; have hfz20_1 := blk_frozen BK101.out 1; have hfz20_2 := blk_frozen BK101.out 2; have hfz20_3 := blk_frozen BK101.out 3; have hcz21_0 : w18.cell? ⟨gb102, 0, none⟩ = some (.int .i64 a1_0) := (blk_cell BK102.out 0).trans rfl; have hcz21_1 : w18.cell? ⟨gb102, 1, none⟩ = some (.int .u64 a1_1) := (blk_cell BK102.out 1).trans rfl; have hcz21_2 : w18.cell? ⟨gb102, 2, none⟩ = some (.int .u64 a1_2) := (blk_cell BK102.out 2).trans rfl; have hcz21_3 : w18.cell? ⟨gb102, 3, none⟩ = some (.int .u64 a1_3) := (blk_cell BK102.out 3).trans rfl; have hfz21_0 := blk_frozen BK102.out 0; have hfz21_1 := blk_frozen BK102.out 1; have hfz21_2 := blk_frozen BK102.out 2; have hfz21_3 := blk_frozen BK102.out 3))
     go_ret
     exact ⟨by first | rfl | (simp [errW_none, errW_some] <;> rfl) | (simp [*, errW_none, errW_some] <;> rfl), by repeat (first | (with_reducible first | exact HB.out | apply below_alloc | apply pw_below_drewN | apply below_drew1 | refine below_set ?_ GE101.out | refine below_set ?_ GE102.out) | exact HB.out)⟩
  ·rw [if_neg c4] at H
   have c4b0 : (a0_1 == a1_1) = false := beq_eq_false_iff_ne.mpr c4
   have c4b1 : (a0_1 != a1_1) = true := bne_iff_ne.mpr c4
   obtain rfl := Option.some.inj H
   go_enter Try.func137, Try.ntmps137
   go_wp2_with (first | ((with_reducible refine gate_dst (N := 2) rfl ?_); refine box_event ?hg (N := 2) ?hd (cs := #[.int .i64 a0_0, .int .u64 a0_1, .int .u64 a0_2, .int .u64 a0_3]) (t := 164) ?hr ?_; (case hd => rfl); (case hg => rfl); (case hr => first | (go_simp; done) | (go_simp; rfl)); intro gb101 hg w22 hbox hb; have n0_ := Aside0.mk (below_step (by repeat (first | (with_reducible first | exact HB.out | apply below_alloc | apply pw_below_drewN | apply below_drew1) | exact HB.out)) hb); have n1_ := Aside0.mk (hbox); have n2_ := Aside0.mk ((by rw [hg]; exact (below_size (by repeat (first | (with_reducible first | exact HB.out | apply below_alloc | apply pw_below_drewN | apply below_drew1) | exact HB.out))) : w.heap.size ≤ gb101)); have n3_ := Aside0.mk ((by rw [hg]; exact (below_size (by repeat (first | (with_reducible first | exact HB.out | apply below_alloc | apply pw_below_drewN | apply below_drew1) | exact HB.out))) : w.heap.size ≤ gb101)); clear HB; have HB := n0_; have BK101 := n1_; have GW101 := n2_; have GE101 := n3_; clear n0_ n1_ n2_ n3_; clear hb hbox hg) | ((with_reducible refine gate_dst (N := 3) rfl ?_); refine box_event ?hg (N := 3) ?hd (cs := #[.int .i64 a1_0, .int .u64 a1_1, .int .u64 a1_2, .int .u64 a1_3]) (t := 164) ?hr ?_; (case hd => rfl); (case hg => rfl); (case hr => first | (go_simp; done) | (go_simp; rfl)); intro gb102 hg w23 hbox hb; have n0_ := Aside0.mk (blk_below (g := gb101) (o := .cells #[.int .i64 a0_0, .int .u64 a0_1, .int .u64 a0_2, .int .u64 a0_3] 164 (0, 0)) (by (with_reducible repeat (first | refine blk_drewN ?_ _ | refine blk_drew ?_ | refine blk_alloc ?_ _)); exact BK101.out) hb); have n1_ := Aside0.mk (below_step (by repeat (first | (with_reducible first | exact HB.out | apply below_alloc | apply pw_below_drewN | apply below_drew1 | refine below_set ?_ GE101.out) | exact HB.out)) hb); have n2_ := Aside0.mk (hbox); have n3_ := Aside0.mk ((by rw [hg]; exact (below_size (by repeat (first | (with_reducible first | exact HB.out | apply below_alloc | apply pw_below_drewN | apply below_drew1 | refine below_set ?_ GE101.out) | exact HB.out))) : w.heap.size ≤ gb102)); have n4_ := Aside0.mk ((by rw [hg]; exact (below_size (by repeat (first | (with_reducible first | exact HB.out | apply below_alloc | apply pw_below_drewN | apply below_drew1 | refine below_set ?_ GE101.out) | exact HB.out))) : w.heap.size ≤ gb102)); have n5_ := Aside0.mk ((by rw [hg]; exact Nat.ne_of_lt (blk_lt (g := gb101) (o := .cells #[.int .i64 a0_0, .int .u64 a0_1, .int .u64 a0_2, .int .u64 a0_3] 164 (0, 0)) (by (with_reducible repeat (first | refine blk_drewN ?_ _ | refine blk_drew ?_ | refine blk_alloc ?_ _)); exact BK101.out)) : gb101 ≠ gb102)); have n6_ := Aside0.mk ((by rw [hg]; exact Nat.ne_of_gt (blk_lt (g := gb101) (o := .cells #[.int .i64 a0_0, .int .u64 a0_1, .int .u64 a0_2, .int .u64 a0_3] 164 (0, 0)) (by (with_reducible repeat (first | refine blk_drewN ?_ _ | refine blk_drew ?_ | refine blk_alloc ?_ _)); exact BK101.out)) : gb102 ≠ gb101)); clear BK101; clear HB; have BK101 := n0_; have HB := n1_; have BK102 := n2_; have GW102 := n3_; have GE102 := n4_; have NB101_102 := n5_; have NB102_101 := n6_; clear n0_ n1_ n2_ n3_ n4_ n5_ n6_; clear hb hbox hg; have hnb24 := NB101_102.out; have hnc24 := NB102_101.out; have hcz25_0 : w23.cell? ⟨gb101, 0, none⟩ = some (.int .i64 a0_0) := (blk_cell BK101.out 0).trans rfl; have hcz25_1 : w23.cell? ⟨gb101, 1, none⟩ = some (.int .u64 a0_1) := (blk_cell BK101.out 1).trans rfl; have hcz25_2 : w23.cell? ⟨gb101, 2, none⟩ = some (.int .u64 a0_2) := (blk_cell BK101.out 2).trans rfl; have hcz25_3 : w23.cell? ⟨gb101, 3, none⟩ = some (.int .u64 a0_3) := (blk_cell BK101.out 3).trans rfl; have hfz25_0 := blk_frozen BK101.out 0; have hfz25_1 := blk_frozen BK101.out 1; have hfz25_2 := blk_frozen BK101.out 2; have hfz25_3 := blk_frozen BK101.out 3; have hcz26_0 : w23.cell? ⟨gb102, 0, none⟩ = some (.int .i64 a1_0) := (blk_cell BK102.out 0).trans rfl; have hcz26_1 : w23.cell? ⟨gb102, 1, none⟩ = some (.int .u64 a1_1) := (blk_cell BK102.out 1).trans rfl; have hcz26_2 : w23.cell? ⟨gb102, 2, none⟩ = some (.int .u64 a1_2) := (blk_cell BK102.out 2).trans rfl; have hcz26_3 : w23.cell? ⟨gb102, 3, none⟩ = some (.int .u64 a1_3) := (blk_cell BK102.out 3).trans rfl; have hfz26_0 := blk_frozen BK102.out 0; have hfz26_1 := blk_frozen BK102.out 1; have hfz26_2 := blk_frozen BK102.out 2; have hfz26_3 := blk_frozen BK102.out 3))
   go_ret
   exact ⟨by first | rfl | (simp [errW_none, errW_some] <;> rfl) | (simp [*, errW_none, errW_some] <;> rfl), by repeat (first | (with_reducible first | exact HB.out | apply below_alloc | apply pw_below_drewN | apply below_drew1 | refine below_set ?_ GE101.out | refine below_set ?_ GE102.out) | exact HB.out)⟩
 ·rw [if_neg c3] at H
  have c3b0 : (a0_0 == a1_0) = false := beq_eq_false_iff_ne.mpr c3
  have c3b1 : (a0_0 != a1_0) = true := bne_iff_ne.mpr c3
  obtain rfl := Option.some.inj H
  go_enter Try.func137, Try.ntmps137
  go_wp2_with (first | ((with_reducible refine gate_dst (N := 2) rfl ?_); refine box_event ?hg (N := 2) ?hd (cs := #[.int .i64 a0_0, .int .u64 a0_1, .int .u64 a0_2, .int .u64 a0_3]) (t := 164) ?hr ?_; (case hd => rfl); (case hg => rfl); (case hr => first | (go_simp; done) | (go_simp; rfl)); intro gb101 hg w27 hbox hb; have n0_ := Aside0.mk (below_step (by repeat (first | (with_reducible first | exact HB.out | apply below_alloc | apply pw_below_drewN | apply below_drew1) | exact HB.out)) hb); have n1_ := Aside0.mk (hbox); have n2_ := Aside0.mk ((by rw [hg]; exact (below_size (by repeat (first | (with_reducible first | exact HB.out | apply below_alloc | apply pw_below_drewN | apply below_drew1) | exact HB.out))) : w.heap.size ≤ gb101)); have n3_ := Aside0.mk ((by rw [hg]; exact (below_size (by repeat (first | (with_reducible first | exact HB.out | apply below_alloc | apply pw_below_drewN | apply below_drew1) | exact HB.out))) : w.heap.size ≤ gb101)); clear HB; have HB := n0_; have BK101 := n1_; have GW101 := n2_; have GE101 := n3_; clear n0_ n1_ n2_ n3_; clear hb hbox hg) | ((with_reducible refine gate_dst (N := 3) rfl ?_); refine box_event ?hg (N := 3) ?hd (cs := #[.int .i64 a1_0, .int .u64 a1_1, .int .u64 a1_2, .int .u64 a1_3]) (t := 164) ?hr ?_; (case hd => rfl); (case hg => rfl); (case hr => first | (go_simp; done) | (go_simp; rfl)); intro gb102 hg w28 hbox hb; have n0_ := Aside0.mk (blk_below (g := gb101) (o := .cells #[.int .i64 a0_0, .int .u64 a0_1, .int .u64 a0_2, .int .u64 a0_3] 164 (0, 0)) (by (with_reducible repeat (first | refine blk_drewN ?_ _ | refine blk_drew ?_ | refine blk_alloc ?_ _)); exact BK101.out) hb); have n1_ := Aside0.mk (below_step (by repeat (first | (with_reducible first | exact HB.out | apply below_alloc | apply pw_below_drewN | apply below_drew1 | refine below_set ?_ GE101.out) | exact HB.out)) hb); have n2_ := Aside0.mk (hbox); have n3_ := Aside0.mk ((by rw [hg]; exact (below_size (by repeat (first | (with_reducible first | exact HB.out | apply below_alloc | apply pw_below_drewN | apply below_drew1 | refine below_set ?_ GE101.out) | exact HB.out))) : w.heap.size ≤ gb102)); have n4_ := Aside0.mk ((by rw [hg]; exact (below_size (by repeat (first | (with_reducible first | exact HB.out | apply below_alloc | apply pw_below_drewN | apply below_drew1 | refine below_set ?_ GE101.out) | exact HB.out))) : w.heap.size ≤ gb102)); have n5_ := Aside0.mk ((by rw [hg]; exact Nat.ne_of_lt (blk_lt (g := gb101) (o := .cells #[.int .i64 a0_0, .int .u64 a0_1, .int .u64 a0_2, .int .u64 a0_3] 164 (0, 0)) (by (with_reducible repeat (first | refine blk_drewN ?_ _ | refine blk_drew ?_ | refine blk_alloc ?_ _)); exact BK101.out)) : gb101 ≠ gb102)); have n6_ := Aside0.mk ((by rw [hg]; exact Nat.ne_of_gt (blk_lt (g := gb101) (o := .cells #[.int .i64 a0_0, .int .u64 a0_1, .int .u64 a0_2, .int .u64 a0_3] 164 (0, 0)) (by (with_reducible repeat (first | refine blk_drewN ?_ _ | refine blk_drew ?_ | refine blk_alloc ?_ _)); exact BK101.out)) : gb102 ≠ gb101)); clear BK101; clear HB; have BK101 := n0_; have HB := n1_; have BK102 := n2_; have GW102 := n3_; have GE102 := n4_; have NB101_102 := n5_; have NB102_101 := n6_; clear n0_ n1_ n2_ n3_ n4_ n5_ n6_; clear hb hbox hg; have hnb29 := NB101_102.out; have hnc29 := NB102_101.out; have hcz30_0 : w28.cell? ⟨gb101, 0, none⟩ = some (.int .i64 a0_0) := (blk_cell BK101.out 0).trans rfl; have hcz30_1 : w28.cell? ⟨gb101, 1, none⟩ = some (.int .u64 a0_1) := (blk_cell BK101.out 1).trans rfl; have hcz30_2 : w28.cell? ⟨gb101, 2, none⟩ = some (.int .u64 a0_2) := (blk_cell BK101.out 2).trans rfl; have hcz30_3 : w28.cell? ⟨gb101, 3, none⟩ = some (.int .u64 a0_3) := (blk_cell BK101.out 3).trans rfl; have hfz30_0 := blk_frozen BK101.out 0; have hfz30_1 := blk_frozen BK101.out 1; have hfz30_2 := blk_frozen BK101.out 2; have hfz30_3 := blk_frozen BK101.out 3; have hcz31_0 : w28.cell? ⟨gb102, 0, none⟩ = some (.int .i64 a1_0) := (blk_cell BK102.out 0).trans rfl; have hcz31_1 : w28.cell? ⟨gb102, 1, none⟩ = some (.int .u64 a1_1) := (blk_cell BK102.out 1).trans rfl; have hcz31_2 : w28.cell? ⟨gb102, 2, none⟩ = some (.int .u64 a1_2) := (blk_cell BK102.out 2).trans rfl; have hcz31_3 : w28.cell? ⟨gb102, 3, none⟩ = some (.int .u64 a1_3) := (blk_cell BK102.out 3).trans rfl; have hfz31_0 := blk_frozen BK102.out 0; have hfz31_1 := blk_frozen BK102.out 1; have hfz31_2 := blk_frozen BK102.out 2; have hfz31_3 := blk_frozen BK102.out 3))
  go_ret
  exact ⟨by first | rfl | (simp [errW_none, errW_some] <;> rfl) | (simp [*, errW_none, errW_some] <;> rfl), by repeat (first | (with_reducible first | exact HB.out | apply below_alloc | apply pw_below_drewN | apply below_drew1 | refine below_set ?_ GE101.out | refine below_set ?_ GE102.out) | exact HB.out)⟩
end Go.Proofs.Ytacgeafjilipdaa.P
namespace Go.Proofs.Ytacgeafjilipdaa.P
open Go.RowKit Go.Proofs.YtacgeafjilipdaaW.PrintWords Go.Proofs.YtacgeafjilipdaaW.PrintLast Go.Proofs.YtacgeafjilipdaaW.PrintMore
attribute [local go_sem] max2_int min2_int max_two min_two max_three min_three max_four min_four
set_option linter.unusedVariables false
set_option linter.unusedSimpArgs false
mutual
def reset_less_uint64.l0 : Nat → List (S123) → Int → List (S123) → Int → Int → Option (Int × Bool)
 | 0, _, _, _, _, _ => none
 | k + 1, x1, x6, x10, x11, x12 => if x12 < x11 then (if 0 ≤ x12 then (if x12 < (x10.length : Int) then (reset_less_uint64.l1 k x1 x6 x10 x11 x12 ((rd_T123 x10 x12).f0) ((rd_T123 x10 x12).f1)) else (none)) else (none)) else (some (0, false))
def reset_less_uint64.j2 : Nat → List (S123) → Int → List (S123) → Int → Int → Int → Int → Option (Int × Bool)
 | 0, _, _, _, _, _, _, _ => none
 | k + 1, x1, x6, x10, x11, x12, x103000, x103001 => if (x1.length : Int) > 0 then (if 0 < (x1.length : Int) then (reset_less_uint64.j3 k x1 x6 x6 x10 x11 x12 (((rd_T123 x1 0).f0) == x103000) x103000 x103001) else (none)) else (reset_less_uint64.j3 k x1 x6 x6 x10 x11 x12 false x103000 x103001)
def reset_less_uint64.j3 : Nat → List (S123) → Int → Int → List (S123) → Int → Int → Bool → Int → Int → Option (Int × Bool)
 | 0, _, _, _, _, _, _, _, _, _ => none
 | k + 1, x1, x6, x9, x10, x11, x12, x42, x103000, x103001 => if x42 = true then (if 0 < (x1.length : Int) then (if ((rd_T123 x1 0).f1) < x103001 then (some (x103000, true)) else (reset_less_uint64.l0 k x1 x6 x10 x11 (wrap64 (x12 + 1)))) else (none)) else (if x9 < x103001 then (some (x103000, true)) else (reset_less_uint64.l0 k x1 x6 x10 x11 (wrap64 (x12 + 1))))
def reset_less_uint64.l1 : Nat → List (S123) → Int → List (S123) → Int → Int → Int → Int → Option (Int × Bool)
 | 0, _, _, _, _, _, _, _ => none
 | k + 1, x1, x6, x10, x11, x12, x103000, x103001 => if (x1.length : Int) > 0 then (if 0 < (x1.length : Int) then (if ((rd_T123 x1 0).f0) < x103000 then (if 1 ≤ (x1.length : Int) then (reset_less_uint64.l1 k (x1.drop 1) x6 x10 x11 x12 x103000 x103001) else (none)) else (reset_less_uint64.j2 k x1 x6 x10 x11 x12 x103000 x103001)) else (none)) else (reset_less_uint64.j2 k x1 x6 x10 x11 x12 x103000 x103001)
end
def reset_less_uint64.f (k : Nat) (l0 : List (S123)) (l1 : List (S123)) : Option (Int × Bool) := reset_less_uint64.l0 k l1 0 l0 (l0.length : Int) 0
set_option maxHeartbeats 8000000 in
set_option maxRecDepth 100000 in
theorem reset_less_uint64.calls (k : Nat) (A0 : Option Addr) (c0 : Nat) (l0 : List (S123)) (P1_ : Nat → Prop) (A1 : Option Addr) (c1 : Nat) (l1 : List (S123)) (r1 : Int) (r2 : Bool) (w : World) (hr0 : Kd.C k123 w A0 l0.length l0) (hc0 : l0.length ≤ c0) (hs1 : Kd.V k123 123 w w.heap.size (fun k_ => P1_ k_) (.slice A1 l1.length c1) l1) (h : reset_less_uint64.f k l0 l1 = some (r1, r2)) :
  Calls Try.prog 177 #[.slice A0 l0.length c0, .slice A1 l1.length c1] w fun e w' => e = .returned (.tuple #[.int .i64 r1, .bool r2]) ∧ Below w.heap.size w w' := by
 have hu123 := Try.underlying123
 have HR0 := Aside0.mk hr0
 have HC0 := Aside0.mk hc0
 clear hr0 hc0
 have HO1 := Aside0.mk (show Kd.V k123 123 w w.heap.size (fun k_ => (P1_ k_ ∨ w.heap.size ≤ k_)) (.slice A1 l1.length c1) l1 from Kd.V_mono hs1 (fun k_ hk => .inl hk))
 have HB := Aside0.mk (Below.refl w.heap.size w)
 have H : (reset_less_uint64.l0 k l1 0 l0 (l0.length : Int) 0) = some (r1, r2) := h
 clear h
 have H' := Aside0.mk H
 clear H
 go_enter Try.func177, Try.ntmps177
 go_wp2
 repeat (go_quiet (fail); try go_wp2)
 go_loopg [1, 12] k (fun kq v1 v12 w' => ∃ (x1_1 : List (S123)) (x12_1 : Int), v12 = .int .i64 x12_1 ∧ Aside0 (reset_less_uint64.l0 kq x1_1 0 l0 (l0.length : Int) x12_1 = some (r1, r2)) ∧ Aside0 (kq ≤ k) ∧ Aside0 (Kd.V k123 123 w' w.heap.size (fun k_ => (P1_ k_ ∨ w.heap.size ≤ k_)) v1 x1_1) ∧ Aside0 (Below w.heap.size w w'))
 case atStart => exact ⟨(l1), (0), (by first | rfl | (simp; done) | (simp [*]; done)), H', ⟨Nat.le_refl _⟩, ⟨by (with_reducible repeat (first | apply Kd.V_alloc | apply Kd.V_drewN | apply Kd.V_drew)); exact HO1.out⟩, ⟨by repeat (first | (with_reducible first | exact HB.out | apply below_alloc | apply pw_below_drewN | apply below_drew1) | exact HB.out)⟩⟩
 case round =>
  clear H'
  try clear c1
  try clear p2
  obtain ⟨x1_1, x12_1, rfl, HA, HK1, HO_1, HB⟩ := hrel
  cases gk with
  | zero => exact absurd HA.out (by simp [reset_less_uint64.l0])
  | succ k1 =>
   have H := HA.out
   clear HA
   simp only [reset_less_uint64.l0] at H
   by_cases c3 : x12_1 < (l0.length : Int)
   ·rw [if_pos c3] at H
    have c3b0 : decide (x12_1 < (l0.length : Int)) = true := decide_eq_true c3
    clear c3
    by_cases c4 : 0 ≤ x12_1
    ·rw [if_pos c4] at H
     have c4b0 : decide (0 ≤ x12_1) = true := decide_eq_true c4
     clear c4
     by_cases c5 : x12_1 < (l0.length : Int)
     ·rw [if_pos c5] at H
      have c5b0 : decide (x12_1 < (l0.length : Int)) = true := decide_eq_true c5
      clear c5
      have HC6 := Aside0.mk H
      clear H
      have p101 : 0 ≤ (x12_1 : Int) := of_decide_eq_true (by first | (with_reducible assumption) | assumption)
      have q101 : x12_1 < (l0.length : Int) := of_decide_eq_true (by first | (with_reducible assumption) | assumption)
      obtain ⟨ad101, e101, hx101_0, hx101_1⟩ := at_T123 HR0.out x12_1 p101 q101
      cases e101
      replace hx101_0 := (HB.out.cell (World.block_lt_of_cell? w _ hx101_0)).trans hx101_0
      replace hx101_1 := (HB.out.cell (World.block_lt_of_cell? w _ hx101_1)).trans hx101_1
      replace p101 := eq_true p101
      replace q101 := eq_true q101
      go_upto_block 2 with (first | ((with_reducible refine gate_dst (N := 8) rfl ?_); refine box_event ?hg (N := 8) ?hd (cs := #[.int .i64 0, .int .u64 0]) (t := 123) ?hr ?_; (case hd => rfl); (case hg => rfl); (case hr => first | (go_simp; done) | (go_simp; rfl)); intro gb102 hg w7 hbox hb; have n0_ := Aside0.mk (Kd.V_below (Kd.V_elderB (by (with_reducible repeat (first | apply Kd.V_alloc | apply Kd.V_drewN | apply Kd.V_drew)); exact HO_1.out) gb102 (Nat.le_of_eq hg.symm)) hb); have n1_ := Aside0.mk (below_step (by repeat (first | (with_reducible first | exact HB.out | apply below_alloc | apply pw_below_drewN | apply below_drew1) | exact HB.out)) hb); have n2_ := Aside0.mk (hbox); have n3_ := Aside0.mk ((by rw [hg]; exact (below_size (by repeat (first | (with_reducible first | exact HB.out | apply below_alloc | apply pw_below_drewN | apply below_drew1) | exact HB.out))) : w.heap.size ≤ gb102)); have n4_ := Aside0.mk ((by rw [hg]; exact (below_size (by repeat (first | (with_reducible first | exact HB.out | apply below_alloc | apply pw_below_drewN | apply below_drew1) | exact HB.out))) : w.heap.size ≤ gb102)); clear HO_1; clear HB; have HO_1 := n0_; have HB := n1_; have BK102 := n2_; have GW102 := n3_; have GE102 := n4_; clear n0_ n1_ n2_ n3_ n4_; clear hb hbox hg; have hcz8_0 : w7.cell? ⟨gb102, 0, none⟩ = some (.int .i64 0) := (blk_cell BK102.out 0).trans rfl; have hcz8_1 : w7.cell? ⟨gb102, 1, none⟩ = some (.int .u64 0) := (blk_cell BK102.out 1).trans rfl; have hfz8_0 := blk_frozen BK102.out 0; have hfz8_1 := blk_frozen BK102.out 1))
      repeat (go_quiet (first | ((with_reducible refine gate_dst (N := 8) rfl ?_); refine box_event ?hg (N := 8) ?hd (cs := #[.int .i64 0, .int .u64 0]) (t := 123) ?hr ?_; (case hd => rfl); (case hg => rfl); (case hr => first | (go_simp; done) | (go_simp; rfl)); intro gb102 hg w7 hbox hb; have n0_ := Aside0.mk (Kd.V_below (Kd.V_elderB (by (with_reducible repeat (first | apply Kd.V_alloc | apply Kd.V_drewN | apply Kd.V_drew)); exact HO_1.out) gb102 (Nat.le_of_eq hg.symm)) hb); have n1_ := Aside0.mk (below_step (by repeat (first | (with_reducible first | exact HB.out | apply below_alloc | apply pw_below_drewN | apply below_drew1) | exact HB.out)) hb); have n2_ := Aside0.mk (hbox); have n3_ := Aside0.mk ((by rw [hg]; exact (below_size (by repeat (first | (with_reducible first | exact HB.out | apply below_alloc | apply pw_below_drewN | apply below_drew1) | exact HB.out))) : w.heap.size ≤ gb102)); have n4_ := Aside0.mk ((by rw [hg]; exact (below_size (by repeat (first | (with_reducible first | exact HB.out | apply below_alloc | apply pw_below_drewN | apply below_drew1) | exact HB.out))) : w.heap.size ≤ gb102)); clear HO_1; clear HB; have HO_1 := n0_; have HB := n1_; have BK102 := n2_; have GW102 := n3_; have GE102 := n4_; clear n0_ n1_ n2_ n3_ n4_; clear hb hbox hg; have hcz8_0 : w7.cell? ⟨gb102, 0, none⟩ = some (.int .i64 0) := (blk_cell BK102.out 0).trans rfl; have hcz8_1 : w7.cell? ⟨gb102, 1, none⟩ = some (.int .u64 0) := (blk_cell BK102.out 1).trans rfl; have hfz8_0 := blk_frozen BK102.out 0; have hfz8_1 := blk_frozen BK102.out 1)); go_upto_block 2 with (first | ((with_reducible refine gate_dst (N := 8) rfl ?_); refine box_event ?hg (N := 8) ?hd (cs := #[.int .i64 0, .int .u64 0]) (t := 123) ?hr ?_; (case hd => rfl); (case hg => rfl); (case hr => first | (go_simp; done) | (go_simp; rfl)); intro gb102 hg w7 hbox hb; have n0_ := Aside0.mk (Kd.V_below (Kd.V_elderB (by (with_reducible repeat (first | apply Kd.V_alloc | apply Kd.V_drewN | apply Kd.V_drew)); exact HO_1.out) gb102 (Nat.le_of_eq hg.symm)) hb); have n1_ := Aside0.mk (below_step (by repeat (first | (with_reducible first | exact HB.out | apply below_alloc | apply pw_below_drewN | apply below_drew1) | exact HB.out)) hb); have n2_ := Aside0.mk (hbox); have n3_ := Aside0.mk ((by rw [hg]; exact (below_size (by repeat (first | (with_reducible first | exact HB.out | apply below_alloc | apply pw_below_drewN | apply below_drew1) | exact HB.out))) : w.heap.size ≤ gb102)); have n4_ := Aside0.mk ((by rw [hg]; exact (below_size (by repeat (first | (with_reducible first | exact HB.out | apply below_alloc | apply pw_below_drewN | apply below_drew1) | exact HB.out))) : w.heap.size ≤ gb102)); clear HO_1; clear HB; have HO_1 := n0_; have HB := n1_; have BK102 := n2_; have GW102 := n3_; have GE102 := n4_; clear n0_ n1_ n2_ n3_ n4_; clear hb hbox hg; have hcz8_0 : w7.cell? ⟨gb102, 0, none⟩ = some (.int .i64 0) := (blk_cell BK102.out 0).trans rfl; have hcz8_1 : w7.cell? ⟨gb102, 1, none⟩ = some (.int .u64 0) := (blk_cell BK102.out 1).trans rfl; have hfz8_0 := blk_frozen BK102.out 0; have hfz8_1 := blk_frozen BK102.out 1)))
      (try simp only [Act.put, List.setIfInBounds_toArray, List.set_cons_zero, List.set_cons_succ])
      go_cut [1] (fun v1 wc => ∃ (kq : Nat) (x1_5 : List (S123)), Aside0 (reset_less_uint64.j2 kq x1_5 0 l0 (l0.length : Int) x12_1 ((rd_T123 l0 x12_1).f0) ((rd_T123 l0 x12_1).f1) = some (r1, r2)) ∧ Aside0 (kq ≤ k1) ∧ Aside0 (Kd.V k123 123 wc w.heap.size (fun k_ => (P1_ k_ ∨ w.heap.size ≤ k_) ∧ k_ ≠ gb102) v1 x1_5) ∧ Aside0 (wc.heap[gb102]? = some (.cells #[.int .i64 ((rd_T123 l0 x12_1).f0), .int .u64 ((rd_T123 l0 x12_1).f1)] 123 (0, 0))) ∧ Aside0 (Below w.heap.size w wc))
      case first =>
       have H := HC6.out
       clear HC6
       have H' := Aside0.mk H
       clear H
       go_wp2
       repeat (go_quiet (fail); try go_wp2)
       go_loopg [1] k1 (fun kq v1 w' => ∃ (x1_2 : List (S123)), Aside0 (reset_less_uint64.l1 kq x1_2 0 l0 (l0.length : Int) x12_1 ((rd_T123 l0 x12_1).f0) ((rd_T123 l0 x12_1).f1) = some (r1, r2)) ∧ Aside0 (kq ≤ k1) ∧ Aside0 (Kd.V k123 123 w' w.heap.size (fun k_ => (P1_ k_ ∨ w.heap.size ≤ k_) ∧ k_ ≠ gb102) v1 x1_2) ∧ Aside0 (w'.heap[gb102]? = some (.cells #[.int .i64 ((rd_T123 l0 x12_1).f0), .int .u64 ((rd_T123 l0 x12_1).f1)] 123 (0, 0))) ∧ Aside0 (Below w.heap.size w w'))
       case atStart => exact ⟨(x1_1), H', ⟨Nat.le_refl _⟩, ⟨by (with_reducible repeat (first | apply Kd.V_alloc | apply Kd.V_drewN | apply Kd.V_drew)); exact Kd.V_mono (Kd.V_far (p := ⟨gb102, 1, none⟩) (Kd.V_far (p := ⟨gb102, 0, none⟩) (Kd.V_mono HO_1.out (fun k_ hk => (⟨hk, hk.2⟩ : _ ∧ k_ ≠ gb102))) (fun _ hk => hk.2) (.int .i64 ((rd_T123 l0 x12_1).f0))) (fun _ hk => hk.2) (.int .u64 ((rd_T123 l0 x12_1).f1))) (fun _ hk => ⟨hk.1.1, hk.1.2⟩)⟩, ⟨by (with_reducible repeat (first | refine blk_drewN ?_ _ | refine blk_drew ?_ | refine blk_alloc ?_ _)); refine blk_put (cs := #[.int .i64 ((rd_T123 l0 x12_1).f0), .int .u64 0]) ?_ 1 _ rfl; (with_reducible repeat (first | refine blk_drewN ?_ _ | refine blk_drew ?_ | refine blk_alloc ?_ _)); refine blk_put (cs := #[.int .i64 0, .int .u64 0]) ?_ 0 _ rfl; (with_reducible repeat (first | refine blk_drewN ?_ _ | refine blk_drew ?_ | refine blk_alloc ?_ _)); exact BK102.out⟩, ⟨by repeat (first | (with_reducible first | exact HB.out | apply below_alloc | apply pw_below_drewN | apply below_drew1 | refine below_set ?_ GE102.out) | exact HB.out)⟩⟩
       case round =>
        clear H'
        try clear c1
        try clear p1
        try clear q1
        try clear hx1
        try clear p2
        try clear c3
        try clear c3b0
        try clear c4
        try clear c4b0
        try clear c5
        try clear c5b0
        try clear hcz8_0
        try clear hcz8_1
        try clear hfz8_0
        try clear hfz8_1
        try clear hx101_0
        try clear hx101_1
        try clear p101
        try clear p2
        try clear q101
        obtain ⟨x1_2, HA, HK2, HO_1, BK102, HB⟩ := hrel
        cases gk with
        | zero => exact absurd HA.out (by simp [reset_less_uint64.l1])
        | succ k2 =>
         have H := HA.out
         clear HA
         simp only [reset_less_uint64.l1] at H
         by_cases c9 : (x1_2.length : Int) > 0
         ·rw [if_pos c9] at H
          have c9b0 : decide (0 < (x1_2.length : Int)) = true := decide_eq_true c9
          have c9b1 : decide (0 < x1_2.length) = true := decide_eq_true (by omega)
          clear c9
          (first | rw [c9b0] | (simp only [i64_w, i32_w]; rw [c9b0]) | skip)
          by_cases c10 : 0 < (x1_2.length : Int)
          ·rw [if_pos c10] at H
           have c10b0 : decide (0 < (x1_2.length : Int)) = true := decide_eq_true c10
           have c10b1 : decide (0 < x1_2.length) = true := decide_eq_true (by omega)
           clear c10
           by_cases c11 : ((rd_T123 x1_2 0).f0) < ((rd_T123 l0 x12_1).f0)
           ·rw [if_pos c11] at H
            have c11b0 : decide (((rd_T123 x1_2 0).f0) < ((rd_T123 l0 x12_1).f0)) = true := decide_eq_true c11
            clear c11
            by_cases c12 : 1 ≤ (x1_2.length : Int)
            ·rw [if_pos c12] at H
             have c12b0 := eq_true c12
             have c12b1 : decide (1 ≤ (x1_2.length : Int)) = true := decide_eq_true c12
             clear c12
             obtain ⟨y104, hy104⟩ : ∃ y_ : List (S123), y_ = (x1_2.drop 1) := ⟨_, rfl⟩
             replace H : (reset_less_uint64.l1 k2 y104 0 l0 (l0.length : Int) x12_1 ((rd_T123 l0 x12_1).f0) ((rd_T123 l0 x12_1).f1)) = some (r1, r2) := by first | (rw [hy104]; with_reducible exact H) | (have H2_ := (Option.bind_some _ _).symm.trans H; rw [hy104]; with_reducible exact H2_) | (have H2_ := (Option.bind_some _ _).symm.trans H; with_reducible exact H2_) | with_reducible exact H | (rw [hy104]; exact H) | exact H
             have Ny104 := Aside0.mk hy104
             clear hy104
             have H' := Aside0.mk H
             clear H
             obtain ⟨Ao13, co13, eo13⟩ := Kd.V_slice HO_1.out
             subst eo13
             have p103 : 0 ≤ (0 : Int) := (by omega)
             have q103 : 0 < (x1_2.length : Int) := of_decide_eq_true (by first | (with_reducible assumption) | assumption)
             obtain ⟨ad103, e103, hx103_0, hx103_1⟩ := at_T123 (Kd.V_reads' HO_1.out).2.2 0 p103 q103
             cases e103
             have qi103 : (0 < x1_2.length) = True := eq_true (by omega)
             (try rw [show ((0 : Int)).toNat = 0 from rfl] at hx103_0)
             (try rw [show 0 * 2 = 0 from rfl] at hx103_0)
             (try rw [Addr.add_zero'] at hx103_0)
             (try rw [show ((0 : Int)).toNat = 0 from rfl] at hx103_1)
             (try rw [show 0 * 2 = 0 from rfl] at hx103_1)
             (try rw [Addr.add_zero'] at hx103_1)
             replace p103 := eq_true p103
             replace q103 := eq_true q103
             have hcz14_0 : wr.cell? ⟨gb102, 0, none⟩ = some (.int .i64 ((rd_T123 l0 x12_1).f0)) := (blk_cell BK102.out 0).trans rfl
             have hcz14_1 : wr.cell? ⟨gb102, 1, none⟩ = some (.int .u64 ((rd_T123 l0 x12_1).f1)) := (blk_cell BK102.out 1).trans rfl
             have hfz14_0 := blk_frozen BK102.out 0
             have hfz14_1 := blk_frozen BK102.out 1
             have q15 : (1 : Int) ≤ ((x1_2.length : Int) : Int) := of_decide_eq_true (by first | (with_reducible assumption) | assumption)
             obtain ⟨i015, hi015, _, hsz15, _⟩ := info_parts info123
             have hroom15 : x1_2.length ≤ co13 := (Kd.V_reads' HO_1.out).2.1
             have hC15 : Kd.F k123 _ _ (some ad103) x1_2.length x1_2 := (Kd.V_at (base := w.heap.size) HO_1.out).2.2
             have hcut15 := cut_from (P := Try.prog) 119 123 .i64 Try.underlying119 hi015 2 hsz15 (some ad103) x1_2.length co13 1 (by omega) q15
             have hr15 := Kd.F_cut (m := (1 : Int).toNat) (c := co13) hC15 (by omega) hroom15
             obtain ⟨A15, hA15⟩ : ∃ A1, A1 = (if co13 = (1 : Int).toNat then (some ad103) else ((some ad103) : Option Addr).map (·.add ((1 : Int).toNat * 2))) := ⟨_, rfl⟩
             obtain ⟨c15, hc15⟩ : ∃ c1, c1 = co13 - (1 : Int).toNat := ⟨_, rfl⟩
             have hy15 : y104.length = x1_2.length - (1 : Int).toNat := (by rw [Ny104.out, List.length_drop] <;> omega)
             rw [show (x1_2).drop (1 : Int).toNat = y104 from Ny104.out.symm] at hr15
             replace hr15 : Kd.F k123 _ _ A15 y104.length y104 := (by rw [hA15]; exact hr15)
             rw [← hy15, ← hA15, ← hc15] at hcut15
             have HO108 := Aside0.mk (show Kd.V k123 123 _ w.heap.size _ (.slice A15 y104.length c15) y104 from Kd.V_mk (by rw [hy15, hc15]; exact Nat.sub_le_sub_right hroom15 _) hr15)
             have HC108 := Aside0.mk (show y104.length ≤ c15 from by rw [hy15, hc15]; exact Nat.sub_le_sub_right hroom15 _)
             clear hr15 hC15 hroom15 hi015 hsz15 hc15
             have KY15 := Aside0.mk hy15
             have KA15 := Aside0.mk hA15
             clear hy15 hA15
             replace q15 := eq_true q15
             go_wp2
             repeat (go_quiet (fail); try go_wp2)
             go_roundg k2
             case measure => have := HK1.out; have := HK2.out; omega
             case rel => exact ⟨(y104), H', ⟨by have := HK1.out; have := HK2.out; omega⟩, ⟨by (with_reducible repeat (first | apply Kd.V_alloc | apply Kd.V_drewN | apply Kd.V_drew)); exact HO108.out⟩, ⟨by (with_reducible repeat (first | refine blk_drewN ?_ _ | refine blk_drew ?_ | refine blk_alloc ?_ _)); exact BK102.out⟩, ⟨by repeat (first | (with_reducible first | exact HB.out | apply below_alloc | apply pw_below_drewN | apply below_drew1 | refine below_set ?_ GE102.out) | exact HB.out)⟩⟩
            ·rw [if_neg c12] at H
             exact absurd H (by simp)
           ·rw [if_neg c11] at H
            have c11b0 : decide (((rd_T123 x1_2 0).f0) < ((rd_T123 l0 x12_1).f0)) = false := decide_eq_false c11
            clear c11
            have H' := Aside0.mk H
            clear H
            obtain ⟨Ao16, co16, eo16⟩ := Kd.V_slice HO_1.out
            subst eo16
            have p103 : 0 ≤ (0 : Int) := (by omega)
            have q103 : 0 < (x1_2.length : Int) := of_decide_eq_true (by first | (with_reducible assumption) | assumption)
            obtain ⟨ad103, e103, hx103_0, hx103_1⟩ := at_T123 (Kd.V_reads' HO_1.out).2.2 0 p103 q103
            cases e103
            have qi103 : (0 < x1_2.length) = True := eq_true (by omega)
            (try rw [show ((0 : Int)).toNat = 0 from rfl] at hx103_0)
            (try rw [show 0 * 2 = 0 from rfl] at hx103_0)
            (try rw [Addr.add_zero'] at hx103_0)
            (try rw [show ((0 : Int)).toNat = 0 from rfl] at hx103_1)
            (try rw [show 0 * 2 = 0 from rfl] at hx103_1)
            (try rw [Addr.add_zero'] at hx103_1)
            replace p103 := eq_true p103
            replace q103 := eq_true q103
            have hcz17_0 : wr.cell? ⟨gb102, 0, none⟩ = some (.int .i64 ((rd_T123 l0 x12_1).f0)) := (blk_cell BK102.out 0).trans rfl
            have hcz17_1 : wr.cell? ⟨gb102, 1, none⟩ = some (.int .u64 ((rd_T123 l0 x12_1).f1)) := (blk_cell BK102.out 1).trans rfl
            have hfz17_0 := blk_frozen BK102.out 0
            have hfz17_1 := blk_frozen BK102.out 1
            go_wp2
            repeat (go_quiet (fail); try go_wp2)
            go_meet
            case rel => exact ⟨_, (x1_2), H', ⟨by have := HK1.out; have := HK2.out; first | omega | exact Nat.le_refl _⟩, ⟨by (with_reducible repeat (first | apply Kd.V_alloc | apply Kd.V_drewN | apply Kd.V_drew)); exact HO_1.out⟩, ⟨by (with_reducible repeat (first | refine blk_drewN ?_ _ | refine blk_drew ?_ | refine blk_alloc ?_ _)); exact BK102.out⟩, ⟨by repeat (first | (with_reducible first | exact HB.out | apply below_alloc | apply pw_below_drewN | apply below_drew1 | refine below_set ?_ GE102.out) | exact HB.out)⟩⟩
          ·rw [if_neg c10] at H
           exact absurd H (by simp)
         ·rw [if_neg c9] at H
          have c9b0 : decide (0 < (x1_2.length : Int)) = false := decide_eq_false c9
          have c9b1 : decide (0 < x1_2.length) = false := decide_eq_false (by omega)
          clear c9
          (first | rw [c9b0] | (simp only [i64_w, i32_w]; rw [c9b0]) | skip)
          have H' := Aside0.mk H
          clear H
          obtain ⟨Ao18, co18, eo18⟩ := Kd.V_slice HO_1.out
          subst eo18
          go_wp2
          repeat (go_quiet (fail); try go_wp2)
          go_meet
          case rel => exact ⟨_, (x1_2), H', ⟨by have := HK1.out; have := HK2.out; first | omega | exact Nat.le_refl _⟩, ⟨by (with_reducible repeat (first | apply Kd.V_alloc | apply Kd.V_drewN | apply Kd.V_drew)); exact HO_1.out⟩, ⟨by (with_reducible repeat (first | refine blk_drewN ?_ _ | refine blk_drew ?_ | refine blk_alloc ?_ _)); exact BK102.out⟩, ⟨by repeat (first | (with_reducible first | exact HB.out | apply below_alloc | apply pw_below_drewN | apply below_drew1 | refine below_set ?_ GE102.out) | exact HB.out)⟩⟩
      case rest =>
       clear HC6
       try clear c1
       try clear p1
       try clear q1
       try clear hx1
       try clear qi1
       try clear p2
       try clear c3
       try clear c3b0
       try clear c4
       try clear c4b0
       try clear c5
       try clear c5b0
       try clear c9
       try clear c9b0
       try clear c9b1
       try clear c10
       try clear c10b0
       try clear c10b1
       try clear p10
       try clear q10
       try clear hx10
       try clear qi10
       try clear c11
       try clear c11b0
       try clear c12
       try clear c12b0
       try clear c12b1
       try clear c15
       try clear q15
       try clear c17
       try clear hcz14_0
       try clear hcz14_1
       try clear hcz17_0
       try clear hcz17_1
       try clear hcz8_0
       try clear hcz8_1
       try clear hfz14_0
       try clear hfz14_1
       try clear hfz17_0
       try clear hfz17_1
       try clear hfz8_0
       try clear hfz8_1
       try clear hx101_0
       try clear hx101_1
       try clear hx103_0
       try clear hx103_1
       try clear p1
       try clear p101
       try clear p103
       try clear p2
       try clear q1
       try clear q101
       try clear q103
       try clear q15
       obtain ⟨kq, x1_5, HA, HJ5, HO_1, BK102, HB⟩ := hcut
       cases kq with
       | zero => exact absurd HA.out (by simp [reset_less_uint64.j2])
       | succ kj5 =>
        have H := HA.out
        clear HA
        simp only [reset_less_uint64.j2] at H
        have HC19 := Aside0.mk H
        clear H
        go_upto_region 8 with (fail)
        repeat (go_quiet (fail); go_upto_region 8 with (fail))
        go_cut [42] (fun v42 wc => ∃ (kq : Nat) (x42_18 : Bool), v42 = .bool x42_18 ∧ Aside0 (reset_less_uint64.j3 kq x1_5 0 0 l0 (l0.length : Int) x12_1 x42_18 ((rd_T123 l0 x12_1).f0) ((rd_T123 l0 x12_1).f1) = some (r1, r2)) ∧ Aside0 (kq ≤ kj5) ∧ Aside0 (Kd.V k123 123 wc w.heap.size (fun k_ => (P1_ k_ ∨ w.heap.size ≤ k_) ∧ k_ ≠ gb102) u1 x1_5) ∧ Aside0 (wc.heap[gb102]? = some (.cells #[.int .i64 ((rd_T123 l0 x12_1).f0), .int .u64 ((rd_T123 l0 x12_1).f1)] 123 (0, 0))) ∧ Aside0 (Below w.heap.size w wc))
        case first =>
         have H := HC19.out
         clear HC19
         by_cases c20 : (x1_5.length : Int) > 0
         ·rw [if_pos c20] at H
          have c20b0 : decide (0 < (x1_5.length : Int)) = true := decide_eq_true c20
          have c20b1 : decide (0 < x1_5.length) = true := decide_eq_true (by omega)
          clear c20
          (first | rw [c20b0] | (simp only [i64_w, i32_w]; rw [c20b0]) | skip)
          by_cases c21 : 0 < (x1_5.length : Int)
          ·rw [if_pos c21] at H
           have c21b0 : decide (0 < (x1_5.length : Int)) = true := decide_eq_true c21
           have c21b1 : decide (0 < x1_5.length) = true := decide_eq_true (by omega)
           clear c21
           have H' := Aside0.mk H
           clear H
           obtain ⟨Ao22, co22, eo22⟩ := Kd.V_slice HO_1.out
           subst eo22
           have p109 : 0 ≤ (0 : Int) := (by omega)
           have q109 : 0 < (x1_5.length : Int) := of_decide_eq_true (by first | (with_reducible assumption) | assumption)
           obtain ⟨ad109, e109, hx109_0, hx109_1⟩ := at_T123 (Kd.V_reads' HO_1.out).2.2 0 p109 q109
           cases e109
           have qi109 : (0 < x1_5.length) = True := eq_true (by omega)
           (try rw [show ((0 : Int)).toNat = 0 from rfl] at hx109_0)
           (try rw [show 0 * 2 = 0 from rfl] at hx109_0)
           (try rw [Addr.add_zero'] at hx109_0)
           (try rw [show ((0 : Int)).toNat = 0 from rfl] at hx109_1)
           (try rw [show 0 * 2 = 0 from rfl] at hx109_1)
           (try rw [Addr.add_zero'] at hx109_1)
           replace p109 := eq_true p109
           replace q109 := eq_true q109
           have hcz23_0 : wc.cell? ⟨gb102, 0, none⟩ = some (.int .i64 ((rd_T123 l0 x12_1).f0)) := (blk_cell BK102.out 0).trans rfl
           have hcz23_1 : wc.cell? ⟨gb102, 1, none⟩ = some (.int .u64 ((rd_T123 l0 x12_1).f1)) := (blk_cell BK102.out 1).trans rfl
           have hfz23_0 := blk_frozen BK102.out 0
           have hfz23_1 := blk_frozen BK102.out 1
           go_wp2
           repeat (go_quiet (fail); try go_wp2)
           go_meet
           case rel => exact ⟨_, ((((rd_T123 x1_5 0).f0) == ((rd_T123 l0 x12_1).f0))), (by first | rfl | (simp; done) | (simp [*]; done)), H', ⟨by have := HK1.out; have := HJ5.out; first | omega | exact Nat.le_refl _⟩, ⟨by (with_reducible repeat (first | apply Kd.V_alloc | apply Kd.V_drewN | apply Kd.V_drew)); exact HO_1.out⟩, ⟨by (with_reducible repeat (first | refine blk_drewN ?_ _ | refine blk_drew ?_ | refine blk_alloc ?_ _)); exact BK102.out⟩, ⟨by repeat (first | (with_reducible first | exact HB.out | apply below_alloc | apply pw_below_drewN | apply below_drew1 | refine below_set ?_ GE102.out) | exact HB.out)⟩⟩
          ·rw [if_neg c21] at H
           exact absurd H (by simp)
         ·rw [if_neg c20] at H
          have c20b0 : decide (0 < (x1_5.length : Int)) = false := decide_eq_false c20
          have c20b1 : decide (0 < x1_5.length) = false := decide_eq_false (by omega)
          clear c20
          (first | rw [c20b0] | (simp only [i64_w, i32_w]; rw [c20b0]) | skip)
          have H' := Aside0.mk H
          clear H
          obtain ⟨Ao24, co24, eo24⟩ := Kd.V_slice HO_1.out
          subst eo24
          go_wp2
          repeat (go_quiet (fail); try go_wp2)
          go_meet
          case rel => exact ⟨_, (false), (by first | rfl | (simp; done) | (simp [*]; done)), H', ⟨by have := HK1.out; have := HJ5.out; first | omega | exact Nat.le_refl _⟩, ⟨by (with_reducible repeat (first | apply Kd.V_alloc | apply Kd.V_drewN | apply Kd.V_drew)); exact HO_1.out⟩, ⟨by (with_reducible repeat (first | refine blk_drewN ?_ _ | refine blk_drew ?_ | refine blk_alloc ?_ _)); exact BK102.out⟩, ⟨by repeat (first | (with_reducible first | exact HB.out | apply below_alloc | apply pw_below_drewN | apply below_drew1 | refine below_set ?_ GE102.out) | exact HB.out)⟩⟩
        case rest =>
         clear HC19
         try clear c1
         try clear p1
         try clear q1
         try clear hx1
         try clear qi1
         try clear c2
         try clear p2
         try clear c3
         try clear c3b0
         try clear c4
         try clear c4b0
         try clear c5
         try clear c5b0
         try clear c9
         try clear c9b0
         try clear c9b1
         try clear c10
         try clear c10b0
         try clear c10b1
         try clear p10
         try clear q10
         try clear hx10
         try clear qi10
         try clear c11
         try clear c11b0
         try clear c12
         try clear c12b0
         try clear c12b1
         try clear c15
         try clear q15
         try clear c17
         try clear c20
         try clear c20b0
         try clear c20b1
         try clear c21
         try clear c21b0
         try clear c21b1
         try clear hcz14_0
         try clear hcz14_1
         try clear hcz17_0
         try clear hcz17_1
         try clear hcz23_0
         try clear hcz23_1
         try clear hcz8_0
         try clear hcz8_1
         try clear hfz14_0
         try clear hfz14_1
         try clear hfz17_0
         try clear hfz17_1
         try clear hfz23_0
         try clear hfz23_1
         try clear hfz8_0
         try clear hfz8_1
         try clear hx101_0
         try clear hx101_1
         try clear hx103_0
         try clear hx103_1
         try clear hx109_0
         try clear hx109_1
         try clear p1
         try clear p10
         try clear p101
         try clear p103
         try clear p109
         try clear p2
         try clear q1
         try clear q10
         try clear q101
         try clear q103
         try clear q109
         try clear q15
         obtain ⟨kq, x42_18, rfl, HA, HJ18, HO_1, BK102, HB⟩ := hcut
         cases kq with
         | zero => exact absurd HA.out (by simp [reset_less_uint64.j3])
         | succ kj18 =>
          have H := HA.out
          clear HA
          simp only [reset_less_uint64.j3] at H
          by_cases c25 : x42_18 = true
          ·subst c25
           have H1 : (if 0 < (x1_5.length : Int) then (if ((rd_T123 x1_5 0).f1) < ((rd_T123 l0 x12_1).f1) then (some (((rd_T123 l0 x12_1).f0), true)) else (reset_less_uint64.l0 kj18 x1_5 0 l0 (l0.length : Int) (wrap64 (x12_1 + 1)))) else (none)) = some (r1, r2) := by rw [if_pos rfl] at H; exact H
           clear H
           have H := H1
           clear H1
           by_cases c26 : 0 < (x1_5.length : Int)
           ·rw [if_pos c26] at H
            have c26b0 : decide (0 < (x1_5.length : Int)) = true := decide_eq_true c26
            have c26b1 : decide (0 < x1_5.length) = true := decide_eq_true (by omega)
            clear c26
            by_cases c27 : ((rd_T123 x1_5 0).f1) < ((rd_T123 l0 x12_1).f1)
            ·rw [if_pos c27] at H
             have c27b0 : decide (((rd_T123 x1_5 0).f1) < ((rd_T123 l0 x12_1).f1)) = true := decide_eq_true c27
             clear c27
             simp only [Option.some.injEq, Prod.mk.injEq] at H
             obtain ⟨rfl, rfl⟩ := H
             obtain ⟨Ao28, co28, eo28⟩ := Kd.V_slice HO_1.out
             subst eo28
             have p110 : 0 ≤ (0 : Int) := (by omega)
             have q110 : 0 < (x1_5.length : Int) := of_decide_eq_true (by first | (with_reducible assumption) | assumption)
             obtain ⟨ad110, e110, hx110_0, hx110_1⟩ := at_T123 (Kd.V_reads' HO_1.out).2.2 0 p110 q110
             cases e110
             have qi110 : (0 < x1_5.length) = True := eq_true (by omega)
             (try rw [show ((0 : Int)).toNat = 0 from rfl] at hx110_0)
             (try rw [show 0 * 2 = 0 from rfl] at hx110_0)
             (try rw [Addr.add_zero'] at hx110_0)
             (try rw [show ((0 : Int)).toNat = 0 from rfl] at hx110_1)
             (try rw [show 0 * 2 = 0 from rfl] at hx110_1)
             (try rw [Addr.add_zero'] at hx110_1)
             replace p110 := eq_true p110
             replace q110 := eq_true q110
             have hcz29_0 : wc.cell? ⟨gb102, 0, none⟩ = some (.int .i64 ((rd_T123 l0 x12_1).f0)) := (blk_cell BK102.out 0).trans rfl
             have hcz29_1 : wc.cell? ⟨gb102, 1, none⟩ = some (.int .u64 ((rd_T123 l0 x12_1).f1)) := (blk_cell BK102.out 1).trans rfl
             have hfz29_0 := blk_frozen BK102.out 0
             have hfz29_1 := blk_frozen BK102.out 1
             go_wp2
             repeat (go_quiet (fail); try go_wp2)
             go_ret2
             exact ⟨by first | rfl | (simp [errW_none, errW_some] <;> rfl) | (simp [*, errW_none, errW_some] <;> rfl), by repeat (first | (with_reducible first | exact HB.out | apply below_alloc | apply pw_below_drewN | apply below_drew1 | refine below_set ?_ GE102.out) | exact HB.out)⟩
            ·rw [if_neg c27] at H
             have c27b0 : decide (((rd_T123 x1_5 0).f1) < ((rd_T123 l0 x12_1).f1)) = false := decide_eq_false c27
             clear c27
             have H' := Aside0.mk H
             clear H
             obtain ⟨Ao30, co30, eo30⟩ := Kd.V_slice HO_1.out
             subst eo30
             have p110 : 0 ≤ (0 : Int) := (by omega)
             have q110 : 0 < (x1_5.length : Int) := of_decide_eq_true (by first | (with_reducible assumption) | assumption)
             obtain ⟨ad110, e110, hx110_0, hx110_1⟩ := at_T123 (Kd.V_reads' HO_1.out).2.2 0 p110 q110
             cases e110
             have qi110 : (0 < x1_5.length) = True := eq_true (by omega)
             (try rw [show ((0 : Int)).toNat = 0 from rfl] at hx110_0)
             (try rw [show 0 * 2 = 0 from rfl] at hx110_0)
             (try rw [Addr.add_zero'] at hx110_0)
             (try rw [show ((0 : Int)).toNat = 0 from rfl] at hx110_1)
             (try rw [show 0 * 2 = 0 from rfl] at hx110_1)
             (try rw [Addr.add_zero'] at hx110_1)
             replace p110 := eq_true p110
             replace q110 := eq_true q110
             have hcz31_0 : wc.cell? ⟨gb102, 0, none⟩ = some (.int .i64 ((rd_T123 l0 x12_1).f0)) := (blk_cell BK102.out 0).trans rfl
             have hcz31_1 : wc.cell? ⟨gb102, 1, none⟩ = some (.int .u64 ((rd_T123 l0 x12_1).f1)) := (blk_cell BK102.out 1).trans rfl
             have hfz31_0 := blk_frozen BK102.out 0
             have hfz31_1 := blk_frozen BK102.out 1
             go_wp2
             repeat (go_quiet (fail); try go_wp2)
             go_roundg kj18
             case measure => have := HK1.out; have := HJ5.out; have := HJ18.out; omega
             case rel => exact ⟨(x1_5), (wrap64 (x12_1 + 1)), (by first | rfl | (simp; done) | (simp [*]; done)), H', ⟨by have := HK1.out; have := HJ5.out; have := HJ18.out; omega⟩, ⟨by (with_reducible repeat (first | apply Kd.V_alloc | apply Kd.V_drewN | apply Kd.V_drew)); exact Kd.V_mono HO_1.out (fun _ hk => hk.1)⟩, ⟨by repeat (first | (with_reducible first | exact HB.out | apply below_alloc | apply pw_below_drewN | apply below_drew1 | refine below_set ?_ GE102.out) | exact HB.out)⟩⟩
           ·rw [if_neg c26] at H
            exact absurd H (by simp)
          ·replace c25 := Bool.eq_false_iff.mpr c25
           subst c25
           have H1 : (if 0 < ((rd_T123 l0 x12_1).f1) then (some (((rd_T123 l0 x12_1).f0), true)) else (reset_less_uint64.l0 kj18 x1_5 0 l0 (l0.length : Int) (wrap64 (x12_1 + 1)))) = some (r1, r2) := by rw [if_neg (show ¬ (false = true) by decide)] at H; exact H
           clear H
           have H := H1
           clear H1
           by_cases c32 : 0 < ((rd_T123 l0 x12_1).f1)
           ·rw [if_pos c32] at H
            have c32b0 : decide (0 < ((rd_T123 l0 x12_1).f1)) = true := decide_eq_true c32
            clear c32
            simp only [Option.some.injEq, Prod.mk.injEq] at H
            obtain ⟨rfl, rfl⟩ := H
            have hcz33_0 : wc.cell? ⟨gb102, 0, none⟩ = some (.int .i64 ((rd_T123 l0 x12_1).f0)) := (blk_cell BK102.out 0).trans rfl
            have hcz33_1 : wc.cell? ⟨gb102, 1, none⟩ = some (.int .u64 ((rd_T123 l0 x12_1).f1)) := (blk_cell BK102.out 1).trans rfl
            have hfz33_0 := blk_frozen BK102.out 0
            have hfz33_1 := blk_frozen BK102.out 1
            go_wp2
            repeat (go_quiet (fail); try go_wp2)
            go_ret2
            exact ⟨by first | rfl | (simp [errW_none, errW_some] <;> rfl) | (simp [*, errW_none, errW_some] <;> rfl), by repeat (first | (with_reducible first | exact HB.out | apply below_alloc | apply pw_below_drewN | apply below_drew1 | refine below_set ?_ GE102.out) | exact HB.out)⟩
           ·rw [if_neg c32] at H
            have c32b0 : decide (0 < ((rd_T123 l0 x12_1).f1)) = false := decide_eq_false c32
            clear c32
            have H' := Aside0.mk H
            clear H
            have hcz34_0 : wc.cell? ⟨gb102, 0, none⟩ = some (.int .i64 ((rd_T123 l0 x12_1).f0)) := (blk_cell BK102.out 0).trans rfl
            have hcz34_1 : wc.cell? ⟨gb102, 1, none⟩ = some (.int .u64 ((rd_T123 l0 x12_1).f1)) := (blk_cell BK102.out 1).trans rfl
            have hfz34_0 := blk_frozen BK102.out 0
            have hfz34_1 := blk_frozen BK102.out 1
            go_wp2
            repeat (go_quiet (fail); try go_wp2)
            go_roundg kj18
            case measure => have := HK1.out; have := HJ5.out; have := HJ18.out; omega
            case rel => exact ⟨(x1_5), (wrap64 (x12_1 + 1)), (by first | rfl | (simp; done) | (simp [*]; done)), H', ⟨by have := HK1.out; have := HJ5.out; have := HJ18.out; omega⟩, ⟨by (with_reducible repeat (first | apply Kd.V_alloc | apply Kd.V_drewN | apply Kd.V_drew)); exact Kd.V_mono HO_1.out (fun _ hk => hk.1)⟩, ⟨by repeat (first | (with_reducible first | exact HB.out | apply below_alloc | apply pw_below_drewN | apply below_drew1 | refine below_set ?_ GE102.out) | exact HB.out)⟩⟩
     ·rw [if_neg c5] at H
      exact absurd H (by simp)
    ·rw [if_neg c4] at H
     exact absurd H (by simp)
   ·rw [if_neg c3] at H
    have c3b0 : decide (x12_1 < (l0.length : Int)) = false := decide_eq_false c3
    clear c3
    simp only [Option.some.injEq, Prod.mk.injEq] at H
    obtain ⟨rfl, rfl⟩ := H
    go_wp2
    repeat (go_quiet (fail); try go_wp2)
    go_ret2
    exact ⟨by first | rfl | (simp [errW_none, errW_some] <;> rfl) | (simp [*, errW_none, errW_some] <;> rfl), by repeat (first | (with_reducible first | exact HB.out | apply below_alloc | apply pw_below_drewN | apply below_drew1) | exact HB.out)⟩
end Go.Proofs.Ytacgeafjilipdaa.P
namespace Go.Proofs.Ytacgeafjilipdaa.P
open Go.RowKit Go.Shelf Go.Proofs.YtacgeafjilipdaaW.PrintWords Go.Proofs.YtacgeafjilipdaaW.PrintLast Go.Proofs.YtacgeafjilipdaaW.PrintMore
set_option linter.unusedVariables false
set_option linter.unusedSimpArgs false
def lessI (a b : List Pr) : Int × Bool := match a.find? (fun p => decide (look (fun q : Pr => q.f0) (fun q : Pr => q.f1) b p.f0 < p.f1)) with | some p => (p.f0, true) | none => (0, false)
theorem lessI_in (a : List Pr) (la i P V : Int) (m : Nat) (r : Option (Int × Bool)) : ∀ (b : List Pr) (k : Nat), b.length + m + 1 < k → (∀ k', (dropTo (fun q : Pr => q.f0) P b).length + m < k' → reset_less_int64.j2 k' (dropTo (fun q : Pr => q.f0) P b) 0 a la i P V = r) → reset_less_int64.l1 k b 0 a la i P V = r
  | [], k, hk, hj => by
    simp only [List.length_nil] at hk
    obtain ⟨k, rfl⟩ : ∃ n, k = n + 1 := ⟨k - 1, by omega⟩
    rw [reset_less_int64.l1, if_neg (by simp)]
    exact hj k (by simp only [dropTo, List.length_nil]; omega)
  | x :: b, k, hk, hj => by
    simp only [List.length_cons] at hk
    obtain ⟨k, rfl⟩ : ∃ n, k = n + 1 := ⟨k - 1, by omega⟩
    have h0 : rd_T26 (x :: b) 0 = x := rdPr_at (l := x :: b) (i := 0) (by simp)
    rw [reset_less_int64.l1, if_pos (by simp <;> omega), if_pos (by simp <;> omega), h0]
    by_cases c : x.f0 < P
    · rw [if_pos c, if_pos (by simp <;> omega)]
      have hd : dropTo (fun q : Pr => q.f0) P (x :: b) = dropTo (fun q : Pr => q.f0) P b := by simp only [dropTo]; rw [if_pos c]
      rw [hd] at hj
      exact lessI_in a la i P V m r b k (by omega) hj
    · rw [if_neg c]
      have hd : dropTo (fun q : Pr => q.f0) P (x :: b) = x :: b := by simp only [dropTo]; rw [if_neg c]
      rw [hd] at hj
      exact hj k (by simp only [List.length_cons]; omega)
theorem lessI_loop (a b : List Pr) (ha : Ups (fun q : Pr => q.f0) a) (hm : a.length < 4611686018427387904) : ∀ (d k i : Nat) (b' : List Pr), a.length - i = d → b'.length + 5 * d + 1 < k → i ≤ a.length → Ups (fun q : Pr => q.f0) b' → (∀ x ∈ a.drop i, look (fun q : Pr => q.f0) (fun q : Pr => q.f1) b' x.f0 = look (fun q : Pr => q.f0) (fun q : Pr => q.f1) b x.f0) →
    reset_less_int64.l0 k b' 0 a (a.length : Int) (i : Int) = some (lessI (a.drop i) b) := by
  intro d
  induction d with
  | zero =>
    intro k i b' hd hk hi hu hl
    obtain ⟨k, rfl⟩ : ∃ n, k = n + 1 := ⟨k - 1, by omega⟩
    rw [reset_less_int64.l0, if_neg (by omega), drop_end (by omega)]; rfl
  | succ d ih =>
    intro k i b' hd hk hi hu hl
    obtain ⟨k, rfl⟩ : ∃ n, k = n + 1 := ⟨k - 1, by omega⟩
    have hlt : i < a.length := by omega
    have hau : Ups (fun q : Pr => q.f0) (a.drop i) := List.Pairwise.sublist (List.drop_sublist i a) ha
    rw [drop_at hlt] at hl hau
    rw [reset_less_int64.l0, if_pos (by omega), if_pos (by omega), if_pos (by omega), rdPr_at hlt, drop_at hlt]
    have hhd : ∀ y ∈ a.drop (i + 1), a[i].f0 < y.f0 := fun y hy => Ups.head hau y hy
    have hx := hl a[i] (List.mem_cons_self ..)
    have hh := dropTo_head (val := fun q : Pr => q.f1) (p := a[i].f0) b' hu
    have hrec : ∀ k', (dropTo (fun q : Pr => q.f0) a[i].f0 b').length + 5 * d + 1 < k' → reset_less_int64.l0 k' (dropTo (fun q : Pr => q.f0) a[i].f0 b') 0 a (a.length : Int) ((i + 1 : Nat) : Int) = some (lessI (a.drop (i + 1)) b) := fun k' hk' =>
      ih k' (i + 1) _ (by omega) (by omega) (by omega) (dropTo_ups b' hu) (fun y hy => by
        rw [dropTo_look (val := fun q : Pr => q.f1) (Int.le_of_lt (hhd y hy)) b']
        exact hl y (List.mem_cons_of_mem _ hy))
    have hres : lessI (a[i] :: a.drop (i + 1)) b = if look (fun q : Pr => q.f0) (fun q : Pr => q.f1) b a[i].f0 < a[i].f1 then (a[i].f0, true) else lessI (a.drop (i + 1)) b := by
      unfold lessI
      rw [List.find?_cons]
      by_cases c : look (fun q : Pr => q.f0) (fun q : Pr => q.f1) b a[i].f0 < a[i].f1
      · rw [decide_eq_true c, if_pos c]
      · rw [decide_eq_false c, if_neg c]
    rw [hres, ← hx]
    refine lessI_in a _ _ _ _ (5 * d + 3) _ b' k (by omega) ?_
    · intro k' hk'
      obtain ⟨k', rfl⟩ : ∃ n, k' = n + 2 := ⟨k' - 2, by omega⟩
      generalize dropTo (fun q : Pr => q.f0) a[i].f0 b' = D at *
      rw [reset_less_int64.j2]
      cases D with
      | nil =>
        rw [if_neg (by simp), reset_less_int64.j3, if_neg (by simp), hh]
        by_cases c : (0 : Int) < a[i].f1
        · rw [if_pos c]; simp only [if_pos c]
        · rw [if_neg c, wrap_succ (by omega), hrec k' (by omega)]; simp only [if_neg c]
      | cons y D =>
        have h0 : rd_T26 (y :: D) 0 = y := rdPr_at (l := y :: D) (i := 0) (by simp)
        rw [if_pos (by simp <;> omega), if_pos (by simp <;> omega), h0, reset_less_int64.j3, h0]
        simp only at hh
        by_cases c : y.f0 = a[i].f0
        · rw [if_pos c] at hh
          rw [if_pos (by simpa using c), if_pos (by simp <;> omega), hh]
          by_cases c2 : y.f1 < a[i].f1
          · rw [if_pos c2]; simp only [if_pos c2]
          · rw [if_neg c2, wrap_succ (by omega), hrec k' (by omega)]; simp only [if_neg c2]
        · rw [if_neg c] at hh
          rw [if_neg (by simpa using c), hh]
          by_cases c2 : (0 : Int) < a[i].f1
          · rw [if_pos c2]; simp only [if_pos c2]
          · rw [if_neg c2, wrap_succ (by omega), hrec k' (by omega)]; simp only [if_neg c2]
theorem lessI_eq (a b : List Pr) (ha : Ups (fun q : Pr => q.f0) a) (hb : Ups (fun q : Pr => q.f0) b) (hm : a.length < 4611686018427387904) (k : Nat) (hk : b.length + 5 * a.length + 1 < k) : reset_less_int64.f k a b = some (lessI a b) := by
  unfold reset_less_int64.f
  exact lessI_loop a b ha hm a.length k 0 b (by omega) hk (by omega) hb (fun x _ => rfl)
def lessF (a b : List Pu) : Int × Bool := match a.find? (fun p => decide (look (fun q : Pu => q.f0) (fun q : Pu => q.f1) b p.f0 < p.f1)) with | some p => (p.f0, true) | none => (0, false)
theorem lessF_in (a : List Pu) (la i P V : Int) (m : Nat) (r : Option (Int × Bool)) : ∀ (b : List Pu) (k : Nat), b.length + m + 1 < k → (∀ k', (dropTo (fun q : Pu => q.f0) P b).length + m < k' → reset_less_uint64.j2 k' (dropTo (fun q : Pu => q.f0) P b) 0 a la i P V = r) → reset_less_uint64.l1 k b 0 a la i P V = r
  | [], k, hk, hj => by
    simp only [List.length_nil] at hk
    obtain ⟨k, rfl⟩ : ∃ n, k = n + 1 := ⟨k - 1, by omega⟩
    rw [reset_less_uint64.l1, if_neg (by simp)]
    exact hj k (by simp only [dropTo, List.length_nil]; omega)
  | x :: b, k, hk, hj => by
    simp only [List.length_cons] at hk
    obtain ⟨k, rfl⟩ : ∃ n, k = n + 1 := ⟨k - 1, by omega⟩
    have h0 : rd_T123 (x :: b) 0 = x := rdPu_at (l := x :: b) (i := 0) (by simp)
    rw [reset_less_uint64.l1, if_pos (by simp <;> omega), if_pos (by simp <;> omega), h0]
    by_cases c : x.f0 < P
    · rw [if_pos c, if_pos (by simp <;> omega)]
      have hd : dropTo (fun q : Pu => q.f0) P (x :: b) = dropTo (fun q : Pu => q.f0) P b := by simp only [dropTo]; rw [if_pos c]
      rw [hd] at hj
      exact lessF_in a la i P V m r b k (by omega) hj
    · rw [if_neg c]
      have hd : dropTo (fun q : Pu => q.f0) P (x :: b) = x :: b := by simp only [dropTo]; rw [if_neg c]
      rw [hd] at hj
      exact hj k (by simp only [List.length_cons]; omega)
theorem lessF_loop (a b : List Pu) (ha : Ups (fun q : Pu => q.f0) a) (hm : a.length < 4611686018427387904) : ∀ (d k i : Nat) (b' : List Pu), a.length - i = d → b'.length + 5 * d + 1 < k → i ≤ a.length → Ups (fun q : Pu => q.f0) b' → (∀ x ∈ a.drop i, look (fun q : Pu => q.f0) (fun q : Pu => q.f1) b' x.f0 = look (fun q : Pu => q.f0) (fun q : Pu => q.f1) b x.f0) →
    reset_less_uint64.l0 k b' 0 a (a.length : Int) (i : Int) = some (lessF (a.drop i) b) := by
  intro d
  induction d with
  | zero =>
    intro k i b' hd hk hi hu hl
    obtain ⟨k, rfl⟩ : ∃ n, k = n + 1 := ⟨k - 1, by omega⟩
    rw [reset_less_uint64.l0, if_neg (by omega), drop_end (by omega)]; rfl
  | succ d ih =>
    intro k i b' hd hk hi hu hl
    obtain ⟨k, rfl⟩ : ∃ n, k = n + 1 := ⟨k - 1, by omega⟩
    have hlt : i < a.length := by omega
    have hau : Ups (fun q : Pu => q.f0) (a.drop i) := List.Pairwise.sublist (List.drop_sublist i a) ha
    rw [drop_at hlt] at hl hau
    rw [reset_less_uint64.l0, if_pos (by omega), if_pos (by omega), if_pos (by omega), rdPu_at hlt, drop_at hlt]
    have hhd : ∀ y ∈ a.drop (i + 1), a[i].f0 < y.f0 := fun y hy => Ups.head hau y hy
    have hx := hl a[i] (List.mem_cons_self ..)
    have hh := dropTo_head (val := fun q : Pu => q.f1) (p := a[i].f0) b' hu
    have hrec : ∀ k', (dropTo (fun q : Pu => q.f0) a[i].f0 b').length + 5 * d + 1 < k' → reset_less_uint64.l0 k' (dropTo (fun q : Pu => q.f0) a[i].f0 b') 0 a (a.length : Int) ((i + 1 : Nat) : Int) = some (lessF (a.drop (i + 1)) b) := fun k' hk' =>
      ih k' (i + 1) _ (by omega) (by omega) (by omega) (dropTo_ups b' hu) (fun y hy => by
        rw [dropTo_look (val := fun q : Pu => q.f1) (Int.le_of_lt (hhd y hy)) b']
        exact hl y (List.mem_cons_of_mem _ hy))
    have hres : lessF (a[i] :: a.drop (i + 1)) b = if look (fun q : Pu => q.f0) (fun q : Pu => q.f1) b a[i].f0 < a[i].f1 then (a[i].f0, true) else lessF (a.drop (i + 1)) b := by
      unfold lessF
      rw [List.find?_cons]
      by_cases c : look (fun q : Pu => q.f0) (fun q : Pu => q.f1) b a[i].f0 < a[i].f1
      · rw [decide_eq_true c, if_pos c]
      · rw [decide_eq_false c, if_neg c]
    rw [hres, ← hx]
    refine lessF_in a _ _ _ _ (5 * d + 3) _ b' k (by omega) ?_
    · intro k' hk'
      obtain ⟨k', rfl⟩ : ∃ n, k' = n + 2 := ⟨k' - 2, by omega⟩
      generalize dropTo (fun q : Pu => q.f0) a[i].f0 b' = D at *
      rw [reset_less_uint64.j2]
      cases D with
      | nil =>
        rw [if_neg (by simp), reset_less_uint64.j3, if_neg (by simp), hh]
        by_cases c : (0 : Int) < a[i].f1
        · rw [if_pos c]; simp only [if_pos c]
        · rw [if_neg c, wrap_succ (by omega), hrec k' (by omega)]; simp only [if_neg c]
      | cons y D =>
        have h0 : rd_T123 (y :: D) 0 = y := rdPu_at (l := y :: D) (i := 0) (by simp)
        rw [if_pos (by simp <;> omega), if_pos (by simp <;> omega), h0, reset_less_uint64.j3, h0]
        simp only at hh
        by_cases c : y.f0 = a[i].f0
        · rw [if_pos c] at hh
          rw [if_pos (by simpa using c), if_pos (by simp <;> omega), hh]
          by_cases c2 : y.f1 < a[i].f1
          · rw [if_pos c2]; simp only [if_pos c2]
          · rw [if_neg c2, wrap_succ (by omega), hrec k' (by omega)]; simp only [if_neg c2]
        · rw [if_neg c] at hh
          rw [if_neg (by simpa using c), hh]
          by_cases c2 : (0 : Int) < a[i].f1
          · rw [if_pos c2]; simp only [if_pos c2]
          · rw [if_neg c2, wrap_succ (by omega), hrec k' (by omega)]; simp only [if_neg c2]
theorem lessF_eq (a b : List Pu) (ha : Ups (fun q : Pu => q.f0) a) (hb : Ups (fun q : Pu => q.f0) b) (hm : a.length < 4611686018427387904) (k : Nat) (hk : b.length + 5 * a.length + 1 < k) : reset_less_uint64.f k a b = some (lessF a b) := by
  unfold reset_less_uint64.f
  exact lessF_loop a b ha hm a.length k 0 b (by omega) hk (by omega) hb (fun x _ => rfl)
end Go.Proofs.Ytacgeafjilipdaa.P
namespace Go.Proofs.Ytacgeafjilipdaa.P
open Go.RowKit Go.Shelf Go.Proofs.YtacgeafjilipdaaW.PrintWords Go.Proofs.YtacgeafjilipdaaW.PrintLast Go.Proofs.YtacgeafjilipdaaW.PrintMore
set_option linter.unusedVariables false
set_option linter.unusedSimpArgs false
attribute [local go_sem] Oper.semAt_some
def cnts (l : List Pr) : Prop := ∀ p ∈ l, i64 p.f0 ∧ 0 ≤ p.f1 ∧ p.f1 ≤ 9223372036854775807
instance (l : List Pr) : Decidable (cnts l) := by unfold cnts; exact inferInstance
end Go.Proofs.Ytacgeafjilipdaa.P
namespace Go.Proofs.Ytacgeafjilipdaa.P
open Go.RowKit Go.Shelf Go.Proofs.YtacgeafjilipdaaW.PrintWords Go.Proofs.YtacgeafjilipdaaW.PrintLast Go.Proofs.YtacgeafjilipdaaW.PrintMore
set_option linter.unusedVariables false
set_option linter.unusedSimpArgs false
def PredP_int64 (g : Nat) (cap : Array Value) (p : S26 → Bool) (w : World) : Prop :=
  ∀ (W : World) (x : S26), Below w.heap.size w W → Calls Try.prog g (#[.agg #[.int .i64 x.f0, .int .i64 x.f1]] ++ cap) W fun e w' => e = .returned (.bool (p x)) ∧ Below W.heap.size W w'
theorem rd_nat_int64 (l : List S26) (i : Nat) (h : i < l.length) : rd_T26 l (i : Int) = l[i] := by
  unfold rd_T26; simp [List.getD, h]
set_option maxHeartbeats 2000000 in
theorem indexFunc_pairs_int64 (g : Nat) (cap : Array Value) (p : S26 → Bool) (A : Option Addr) (c : Nat) (l : List S26) (w : World)
    (hr : Kd.C k26 w A l.length l) (hc : l.length ≤ c) (hm : l.length ≤ 9223372036854775807) (hp : PredP_int64 g cap p w) (eg : ∀ args w, (callFunc g args).run Try.prog w = .ok (.enter g args) w) :
    Calls Try.prog 123 #[.slice A l.length c, .func (.func g) #[] cap] w fun e w' => e = .returned (.int .i64 (idxP p l)) ∧ Below w.heap.size w w' := by
  have hu := Try.underlying26
  have HR := Aside0.mk hr
  have HP := Aside0.mk hp
  clear hr hp
  go_enter Try.func123, Try.ntmps123
  go_wp2
  go_loopg [5, 8] l.length (fun gg _ s8 wr => ∃ kk : Nat, kk ≤ l.length ∧ l.length - kk ≤ gg ∧ s8 = .int .i64 kk ∧ Aside0 (Below w.heap.size w wr) ∧ Aside0 (∀ j (hj : j < kk) (hj2 : j < l.length), p l[j] = false))
  case atStart => exact ⟨0, Nat.zero_le _, by omega, rfl, ⟨Below.refl _ w⟩, ⟨fun j hj => absurd hj (Nat.not_lt_zero _)⟩⟩
  case round =>
    obtain ⟨kk, hkk, hg, rfl, HB, HA⟩ := hrel
    by_cases hlt : kk < l.length
    · have hlti : (kk : Int) < (l.length : Int) := by omega
      obtain ⟨ad, e1, hx0, hx1⟩ := at_T26 HR.out kk (by omega) (by omega)
      cases e1
      replace hx0 := (HB.out.cell (World.block_lt_of_cell? w _ hx0)).trans hx0
      replace hx1 := (HB.out.cell (World.block_lt_of_cell? w _ hx1)).trans hx1
      rw [rd_nat_int64 l kk hlt, Int.toNat_natCast] at hx0 hx1
      have hcall := HP.out wr l[kk] HB.out
      generalize hy : l[kk] = y at hx0 hx1 hcall
      have HY := Aside0.mk hy
      clear hy
      cases hq : p y with
      | true =>
        rw [hq] at hcall
        have HQ := Aside0.mk hq
        clear hq
        have HC := Aside0.mk hcall
        clear hcall
        go_wp2_with (go_at_fn g; refine HC.out.mono ?_; rintro e w' ⟨rfl, hb'⟩)
        go_ret
        refine ⟨?_, HB.out.trans (hb'.mono HB.out.size)⟩
        rw [idxP_hit p l kk hlt (by rw [HY.out]; exact HQ.out) (fun j hj => HA.out j hj (by omega))]; rfl
      | false =>
        rw [hq] at hcall
        have HQ := Aside0.mk hq
        clear hq
        have HC := Aside0.mk hcall
        clear hcall
        go_wp2_with (go_at_fn g; refine HC.out.mono ?_; rintro e w' ⟨rfl, hb'⟩)
        go_roundg (l.length - (kk + 1))
        case measure => omega
        case rel =>
          refine ⟨kk + 1, by omega, by omega, by go_num, ⟨HB.out.trans (hb'.mono HB.out.size)⟩, ⟨fun j hj hj2 => ?_⟩⟩
          by_cases e : j = kk
          · subst e
            rw [HY.out]; exact HQ.out
          · exact HA.out j (by omega) hj2
    · have hlti : ¬ (kk : Int) < (l.length : Int) := by omega
      have hk : kk = l.length := by omega
      go_wp2
      go_ret
      refine ⟨?_, HB.out⟩
      rw [idxP_miss p l (fun j hj => HA.out j (by omega) hj)]; rfl
end Go.Proofs.Ytacgeafjilipdaa.P
namespace Go.Proofs.Ytacgeafjilipdaa.P
open Go.RowKit Go.Shelf Go.Proofs.YtacgeafjilipdaaW.PrintWords Go.Proofs.YtacgeafjilipdaaW.PrintLast Go.Proofs.YtacgeafjilipdaaW.PrintMore
set_option linter.unusedVariables false
set_option linter.unusedSimpArgs false
def slices_Clone_pair.f (l0 : List S26) : Option (List S26) := if l0.length < 8796093022208 then some l0 else none
set_option maxHeartbeats 2000000 in
set_option maxRecDepth 100000 in
theorem slices_Clone_pair.calls (A0 : Option Addr) (c0 : Nat) (l0 r : List S26) (w : World) (hr0 : Kd.C k26 w A0 l0.length l0) (hc0 : l0.length ≤ c0) (h : slices_Clone_pair.f l0 = some r) :
    Calls Try.prog 126 #[.slice A0 l0.length c0] w fun e w' => ∃ v0_ : Value, e = .returned (v0_) ∧ Kd.R k26 26 w' w.heap.size (fun _ => True) v0_ r ∧ Below w.heap.size w w' := by
  obtain ⟨hm, h2⟩ := of_ite_some h
  subst h2
  clear h
  have hu := Try.underlying22
  have HM := Aside0.mk hm
  clear hm
  cases A0 with
  | none =>
    have hl : l0 = [] := by
      rcases Nat.eq_zero_or_pos l0.length with h | h
      · exact List.length_eq_zero_iff.1 h
      · obtain ⟨ad, e, _⟩ := hr0.2.2 h
        cases e
    subst hl
    have hn : ∀ W n c, (binOp .eql 22 (.slice none n c) (.slice none 0 0)).run Try.prog W = .ok (.bool true) W := fun W n c => by
      exact Lib.run_eql_slice_nil W _ _ none n c 0 0 Try.underlying22
    go_enter Try.func126, Try.ntmps126
    go_wp2
    go_ret
    exact ⟨_, rfl, Kd.R_nil _ _ _ _ _, Below.refl _ _⟩
  | some ad =>
    have hn : ∀ W n c, (binOp .eql 22 (.slice (some ad) n c) (.slice none 0 0)).run Try.prog W = .ok (.bool false) W := fun W n c => by
      exact Lib.run_eql_slice_nil W _ _ (some ad) n c 0 0 Try.underlying22
    have HR := Aside0.mk hr0
    clear hr0
    go_enter Try.func126, Try.ntmps126
    go_wp2_with ((with_reducible refine gate_builtin (b := .append) (xs := #[.tmp 5, .tmp 6]) rfl ?_); at_builtin; refine Kd.R_append_rows k26 (w0 := w) (Rr := k26.K w) w.heap.size rfl (.tmp 5) (.tmp 6) 22 26 _ 16 rfl Try.underlying22 info26 rfl (by decide) (by omega) (.slice (some ⟨w.heap.size, 0, none⟩) 0 0) [] l0 (some ad) l0.length c0 (fun _ => True) (fun _ => False) rfl rfl ?aO ?aR ?aK (fun _ hk => hk.elim) (fun _ _ => trivial) ?aB ?aS ?aL ?_; (case aO => exact ⟨fun _ _ => trivial, [], ⟨rfl, .inr ⟨w.heap.size, 0, #[], rfl, Nat.le_refl _, by simpa using blk_new w _, Nat.le_refl _, by unfold maxLen; omega, rfl, rfl⟩⟩, Reps.none _ _⟩); (case aR => exact HR.out.imp_ (below_alloc (Below.refl _ _) _) (fun _ _ h => h)); (case aK => intro x cs hx; rw [k26_open hx]; exact k26_mkM _ _ _ x); (case aB => exact below_alloc (Below.refl _ _) _); (case aS => simp); (case aL => have := HM.out; simp; omega); intro v1 w1 ho hb hg hat; rw [List.nil_append] at ho; have HO := Aside0.mk ho; have HB := Aside0.mk hb; clear ho hb hg hat)
    go_ret
    exact ⟨_, rfl, HO.out, HB.out⟩
end Go.Proofs.Ytacgeafjilipdaa.P
