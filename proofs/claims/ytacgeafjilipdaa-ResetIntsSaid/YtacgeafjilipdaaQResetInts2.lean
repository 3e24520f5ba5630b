/- ResetInts: the part that this text bears of the proof that the statement answers true for every input. No condition. -/
import Derived.Test.YtacgeafjilipdaaProg
import Derived.Below
import Derived.Deep.Draws
import Derived.Deep.AppendLies
import Derived.Maps.AppendAt
import Derived.OwnWalk
import Derived.Laws.BytesArg
import Derived.Laws.MakeOwn
import Derived.Laws.OwnMore
import Derived.Deep.OwnRows
import Derived.Tactics
import Derived.Lib.ConvBytes
import Derived.Laws.Slices
import Derived.WalkKit
import Derived.KernelRfl
import Derived.RowKit3
import Derived.Deep.LoopGhost
import Derived.Deep.QuietTactic
import Derived.BigQuiet
import Derived.WideLaws
import Derived.Deep.DeepCutAuto
import Derived.Deep.CutBlock
import Derived.Deep.RegionHeld3
import Derived.Laws.Rows
import Derived.Lib.AppendStr
import Derived.ArgAppend
import Derived.Laws.IdiomCopy
import Derived.OrdersHeld
import Derived.Laws.BitsLemmas
import Derived.RowKit
import Derived.Deep.Slices
import Derived.ChangeArms
import Derived.Shelf.Abstract
import Derived.WalkSpells
import Derived.RangeFuncNested
import Derived.RangeFuncBound
import Derived.RangeFuncCalls
import Derived.RangeFuncLeaves
import Derived.RangeFuncBox
import Derived.OwnWalkIn
import Derived.TacticsInMore
import Derived.LoopNIn
import Derived.LoopIn
import Derived.Laws.Externs
import Derived.Shelf.Spec.BitsCarry
import Derived.RegionIn
import Derived.Sort.QuietTacIn
import Derived.Deep.RegionWith
import Derived.Laws.BitsAllLaws
import Derived.ProofKit
import Derived.JoinedOf
import Derived.OpenShut
import Derived.ShutString
import Derived.ChangeOld
import Derived.SizedLaws
import Derived.Test.YtacgeafjilipdaaQResetIntsWWords
import Derived.Test.YtacgeafjilipdaaQResetIntsWLast
import Derived.Test.YtacgeafjilipdaaQResetIntsWTab
import Derived.Test.YtacgeafjilipdaaQResetIntsWFour
import Derived.Test.YtacgeafjilipdaaQResetIntsWQPut
import Derived.Test.YtacgeafjilipdaaQResetIntsWApart
import Derived.Test.YtacgeafjilipdaaQResetIntsWArr
import Derived.Test.YtacgeafjilipdaaQResetIntsWZeros
import Derived.Test.YtacgeafjilipdaaQResetIntsWFoot
import Derived.Test.YtacgeafjilipdaaQResetIntsWKept
import Derived.Test.YtacgeafjilipdaaQResetIntsWShare
import Derived.Test.YtacgeafjilipdaaQResetIntsWN
import Derived.Test.YtacgeafjilipdaaQResetIntsWFootNe
import Derived.Test.YtacgeafjilipdaaQResetIntsWAt
import Derived.Test.YtacgeafjilipdaaQResetIntsWEqStruct
import Derived.Test.YtacgeafjilipdaaQResetIntsWRepsOne
import Derived.Test.YtacgeafjilipdaaQResetIntsWInv
import Derived.Test.YtacgeafjilipdaaQResetIntsWInvWords
import Derived.Test.YtacgeafjilipdaaQResetIntsWGuard
import Derived.Test.YtacgeafjilipdaaQResetIntsWNEv
import Derived.Test.YtacgeafjilipdaaQResetIntsWMore
import Derived.Test.YtacgeafjilipdaaRows
import Derived.Test.YtacgeafjilipdaaQResetInts0
import Derived.Test.YtacgeafjilipdaaQResetInts1
namespace Go.Proofs.Ytacgeafjilipdaa.P
open Go.RowKit Go.Shelf Go.Proofs.YtacgeafjilipdaaW.PrintWords Go.Proofs.YtacgeafjilipdaaW.PrintLast Go.Proofs.YtacgeafjilipdaaW.PrintMore
set_option linter.unusedVariables false
set_option linter.unusedSimpArgs false
abbrev Fh := S79
def GI (w : World) (v : Value) (h : Fh) : Prop :=
  ∃ v5 v6 v7 v8, v = .agg #[.int .i64 h.f0, .int .u64 h.f1, .int .u64 h.f2, .int .u64 h.f3, .int .u64 h.f4, v5, v6, v7, v8] ∧ SI kSp w v5 h.f5 ∧ SI kSp w v6 h.f6 ∧ SI (Kd.int .u64) w v7 h.f7 ∧ SI (Kd.int .u64) w v8 h.f8
theorem GI.below {w w' : World} {v : Value} {h : Fh} (x : GI w v h) (hb : Below w.heap.size w w') : GI w' v h := by
  obtain ⟨v5, v6, v7, v8, e, h5, h6, h7, h8⟩ := x
  exact ⟨v5, v6, v7, v8, e, h5.below hb, h6.below hb, h7.below hb, h8.below hb⟩
theorem GI.open_ {w : World} {v : Value} {h : Fh} (x : GI w v h) : ∃ A5 c5 A6 c6 A7 c7 A8 c8, v = .agg #[.int .i64 h.f0, .int .u64 h.f1, .int .u64 h.f2, .int .u64 h.f3, .int .u64 h.f4, .slice A5 h.f5.length c5, .slice A6 h.f6.length c6, .slice A7 h.f7.length c7, .slice A8 h.f8.length c8] ∧
    SI kSp w (.slice A5 h.f5.length c5) h.f5 ∧ SI kSp w (.slice A6 h.f6.length c6) h.f6 ∧ SI (Kd.int .u64) w (.slice A7 h.f7.length c7) h.f7 ∧ SI (Kd.int .u64) w (.slice A8 h.f8.length c8) h.f8 := by
  obtain ⟨v5, v6, v7, v8, rfl, h5, h6, h7, h8⟩ := x
  obtain ⟨A5, c5, rfl, h51, h52⟩ := h5
  obtain ⟨A6, c6, rfl, h61, h62⟩ := h6
  obtain ⟨A7, c7, rfl, h71, h72⟩ := h7
  obtain ⟨A8, c8, rfl, h81, h82⟩ := h8
  exact ⟨A5, c5, A6, c6, A7, c7, A8, c8, rfl, .of h52 h51, .of h62 h61, .of h72 h71, .of h82 h81⟩
theorem GI.mk {w : World} {h : Fh} {v5 v6 v7 v8 : Value} (h5 : SI kSp w v5 h.f5) (h6 : SI kSp w v6 h.f6) (h7 : SI (Kd.int .u64) w v7 h.f7) (h8 : SI (Kd.int .u64) w v8 h.f8) :
    GI w (.agg #[.int .i64 h.f0, .int .u64 h.f1, .int .u64 h.f2, .int .u64 h.f3, .int .u64 h.f4, v5, v6, v7, v8]) h := ⟨v5, v6, v7, v8, rfl, h5, h6, h7, h8⟩
def emptyF : Fh := ⟨0, 0, 0, 0, 0, [], [], [], []⟩
def GF (base : Nat) (w : World) (v : Value) (h : Fh) : Prop :=
  ∃ v5 v6 v7 v8, v = .agg #[.int .i64 h.f0, .int .u64 h.f1, .int .u64 h.f2, .int .u64 h.f3, .int .u64 h.f4, v5, v6, v7, v8] ∧ FI kSp base w v5 h.f5 ∧ FI kSp base w v6 h.f6 ∧ FI (Kd.int .u64) base w v7 h.f7 ∧ FI (Kd.int .u64) base w v8 h.f8
theorem GF.now {base : Nat} {w : World} {v : Value} {h : Fh} (x : GF base w v h) : GI w v h := by
  obtain ⟨v5, v6, v7, v8, e, h5, h6, h7, h8⟩ := x
  exact ⟨v5, v6, v7, v8, e, h5.now, h6.now, h7.now, h8.now⟩
theorem GF.step {base : Nat} {w w' : World} {v : Value} {h : Fh} (x : GF base w v h) (k : KA base w w') : GF base w' v h := by
  obtain ⟨v5, v6, v7, v8, e, h5, h6, h7, h8⟩ := x
  exact ⟨v5, v6, v7, v8, e, h5.step k, h6.step k, h7.step k, h8.step k⟩
theorem GF.lower {base b : Nat} {w : World} {v : Value} {h : Fh} (x : GF b w v h) (hb : base ≤ b) : GF base w v h := by
  obtain ⟨v5, v6, v7, v8, e, h5, h6, h7, h8⟩ := x
  exact ⟨v5, v6, v7, v8, e, h5.lower hb, h6.lower hb, h7.lower hb, h8.lower hb⟩
theorem GF.mk {base : Nat} {w : World} {h : Fh} {v5 v6 v7 v8 : Value} (h5 : FI kSp base w v5 h.f5) (h6 : FI kSp base w v6 h.f6) (h7 : FI (Kd.int .u64) base w v7 h.f7) (h8 : FI (Kd.int .u64) base w v8 h.f8) :
    GF base w (.agg #[.int .i64 h.f0, .int .u64 h.f1, .int .u64 h.f2, .int .u64 h.f3, .int .u64 h.f4, v5, v6, v7, v8]) h := ⟨v5, v6, v7, v8, rfl, h5, h6, h7, h8⟩
theorem GF.open_ {base : Nat} {w : World} {v : Value} {h : Fh} (x : GF base w v h) : ∃ A5 c5 A6 c6 A7 c7 A8 c8, v = .agg #[.int .i64 h.f0, .int .u64 h.f1, .int .u64 h.f2, .int .u64 h.f3, .int .u64 h.f4, .slice A5 h.f5.length c5, .slice A6 h.f6.length c6, .slice A7 h.f7.length c7, .slice A8 h.f8.length c8] := by
  obtain ⟨A5, c5, A6, c6, A7, c7, A8, c8, e, -⟩ := x.now.open_
  exact ⟨A5, c5, A6, c6, A7, c7, A8, c8, e⟩
def wfF (h : Fh) : Prop := i64 h.f0 ∧ u64 h.f1 ∧ u64 h.f2 ∧ u64 h.f3 ∧ u64 h.f4 ∧ wfSps h.f5 ∧ wfSps h.f6 ∧ u64s h.f7 ∧ u64s h.f8 ∧ h.f7.length < 4398046511104 ∧ h.f8.length < 4398046511104
def openF (h : Fh) : List Pu × List Pu × Int :=
  if h.f0 < -4 ∨ h.f0 > 8 then ([], [], 21) else if rightF h.f1 = false then ([], [], 11) else if (!rightF h.f2 || !rightF h.f3) = true then ([], [], 22)
  else if (sideF h.f5 h.f7).2 ≠ 0 then ([], [], (sideF h.f5 h.f7).2) else if (sideF h.f6 h.f8).2 ≠ 0 then ([], [], (sideF h.f6 h.f8).2)
  else ((sideF h.f5 h.f7).1, (sideF h.f6 h.f8).1, 0)
def checkF (h : Fh) : Int := (openF h).2.2
set_option maxHeartbeats 16000000 in
set_option maxRecDepth 100000 in
theorem fopen_f (h : Fh) (hw : wfF h) (w : World) (v : Value) (hv : GI w v h) : Calls Try.prog 159 #[v] w fun e w' =>
    ∃ v0 v1 : Value, e = .returned (.tuple #[v0, v1, .int .i64 (openF h).2.2]) ∧ FI kPu w.heap.size w' v0 (openF h).1 ∧ FI kPu w.heap.size w' v1 (openF h).2.1 ∧ Below w.heap.size w w' := by
  have hud := Try.underlying79
  have th := thresh_c h.f1
  have wz := wrong_c h.f2
  have wc := wrong_c h.f3
  have s5 := fside_c h.f5 h.f7 hw.2.2.2.2.2.1 hw.2.2.2.2.2.2.2.2.2.1
  have s6 := fside_c h.f6 h.f8 hw.2.2.2.2.2.2.1 hw.2.2.2.2.2.2.2.2.2.2
  obtain ⟨A5, c5, A6, c6, A7, c7, A8, c8, e, h5, h6, h7, h8⟩ := hv.open_
  subst e
  have B := Aside0.mk (below_alloc (Below.refl w.heap.size w) (.cells #[.int .i64 h.f0, .int .u64 h.f1, .int .u64 h.f2, .int .u64 h.f3, .int .u64 h.f4, .slice A5 h.f5.length c5, .slice A6 h.f6.length c6, .slice A7 h.f7.length c7, .slice A8 h.f8.length c8] 79))
  have X := Aside0.mk (Blk.new w #[.int .i64 h.f0, .int .u64 h.f1, .int .u64 h.f2, .int .u64 h.f3, .int .u64 h.f4, .slice A5 h.f5.length c5, .slice A6 h.f6.length c6, .slice A7 h.f7.length c7, .slice A8 h.f8.length c8] 79)
  have hx := fun i => X.out.cell i
  have H5 := Aside0.mk (h5.below B.out)
  have H6 := Aside0.mk (h6.below B.out)
  have H7 := Aside0.mk (h7.below B.out)
  have H8 := Aside0.mk (h8.below B.out)
  clear hv h5 h6 h7 h8
  unfold openF
  generalize rightF h.f1 = r1 at *
  generalize rightF h.f2 = r2 at *
  generalize rightF h.f3 = r3 at *
  generalize sideF h.f5 h.f7 = q5 at *
  generalize sideF h.f6 h.f8 = q6 at *
  obtain ⟨p, e5⟩ := q5
  obtain ⟨n, e6⟩ := q6
  simp only at s5 s6 ⊢
  have TH := Aside0.mk th
  have WZ := Aside0.mk wz
  have WC := Aside0.mk wc
  have S5 := Aside0.mk s5
  have S6 := Aside0.mk s6
  clear th wz wc s5 s6 hw
  by_cases k1 : h.f0 < -4
  · rw [if_pos (Or.inl k1)]
    have k1b : decide (h.f0 < -4) = true := decide_eq_true k1
    clear k1
    go_enter Try.func159, Try.ntmps159
    go_wp2
    go_ret3
    exact ⟨_, _, rfl, fun w _ => SI.nil _ w, fun w _ => SI.nil _ w, B.out⟩
  by_cases k2 : h.f0 > 8
  · rw [if_pos (Or.inr k2)]
    have k1b : decide (h.f0 < -4) = false := decide_eq_false k1
    have k2b : decide (8 < h.f0) = true := decide_eq_true k2
    clear k1 k2
    go_enter Try.func159, Try.ntmps159
    go_wp2
    go_ret3
    exact ⟨_, _, rfl, fun w _ => SI.nil _ w, fun w _ => SI.nil _ w, B.out⟩
  rw [if_neg (by omega)]
  have k1b : decide (h.f0 < -4) = false := decide_eq_false k1
  have k2b : decide (8 < h.f0) = false := decide_eq_false k2
  clear k1 k2
  cases r1 with
  | false =>
    rw [if_pos rfl]
    go_enter Try.func159, Try.ntmps159
    go_wp2_with (first | (go_at_call 74; (with_reducible refine (TH.out _).mono ?_); rintro e W1 ⟨rfl, hb⟩; replace B := Aside0.mk (below_then B.out B.out.size hb); replace H5 := Aside0.mk (H5.out.below hb); replace H6 := Aside0.mk (H6.out.below hb); replace H7 := Aside0.mk (H7.out.below hb); replace H8 := Aside0.mk (H8.out.below hb); replace X := Aside0.mk (X.out.below hb); replace hx := fun i => X.out.cell i; clear  hb))
    go_ret3
    exact ⟨_, _, rfl, fun w _ => SI.nil _ w, fun w _ => SI.nil _ w, B.out⟩
  | true =>
    rw [if_neg (by simp)]
    cases r2 with
    | false =>
      rw [if_pos (by simp)]
      go_enter Try.func159, Try.ntmps159
      go_wp2_with (first | (go_at_call 74; (with_reducible refine (TH.out _).mono ?_); rintro e W1 ⟨rfl, hb⟩; replace B := Aside0.mk (below_then B.out B.out.size hb); replace H5 := Aside0.mk (H5.out.below hb); replace H6 := Aside0.mk (H6.out.below hb); replace H7 := Aside0.mk (H7.out.below hb); replace H8 := Aside0.mk (H8.out.below hb); replace X := Aside0.mk (X.out.below hb); replace hx := fun i => X.out.cell i; clear  hb) | (go_at_call 181; (with_reducible refine (WZ.out _).mono ?_); rintro e W2 ⟨rfl, hb⟩; replace B := Aside0.mk (below_then B.out B.out.size hb); replace H5 := Aside0.mk (H5.out.below hb); replace H6 := Aside0.mk (H6.out.below hb); replace H7 := Aside0.mk (H7.out.below hb); replace H8 := Aside0.mk (H8.out.below hb); replace X := Aside0.mk (X.out.below hb); replace hx := fun i => X.out.cell i; clear  hb))
      go_ret3
      exact ⟨_, _, rfl, fun w _ => SI.nil _ w, fun w _ => SI.nil _ w, B.out⟩
    | true =>
      cases r3 with
      | false =>
        rw [if_pos (by simp)]
        go_enter Try.func159, Try.ntmps159
        go_wp2_with (first | (go_at_call 74; (with_reducible refine (TH.out _).mono ?_); rintro e W1 ⟨rfl, hb⟩; replace B := Aside0.mk (below_then B.out B.out.size hb); replace H5 := Aside0.mk (H5.out.below hb); replace H6 := Aside0.mk (H6.out.below hb); replace H7 := Aside0.mk (H7.out.below hb); replace H8 := Aside0.mk (H8.out.below hb); replace X := Aside0.mk (X.out.below hb); replace hx := fun i => X.out.cell i; clear  hb) | (go_at_call 181; (with_reducible refine (WZ.out _).mono ?_); rintro e W2 ⟨rfl, hb⟩; replace B := Aside0.mk (below_then B.out B.out.size hb); replace H5 := Aside0.mk (H5.out.below hb); replace H6 := Aside0.mk (H6.out.below hb); replace H7 := Aside0.mk (H7.out.below hb); replace H8 := Aside0.mk (H8.out.below hb); replace X := Aside0.mk (X.out.below hb); replace hx := fun i => X.out.cell i; clear  hb) | (go_at_call 181; (with_reducible refine (WC.out _).mono ?_); rintro e W3 ⟨rfl, hb⟩; replace B := Aside0.mk (below_then B.out B.out.size hb); replace H5 := Aside0.mk (H5.out.below hb); replace H6 := Aside0.mk (H6.out.below hb); replace H7 := Aside0.mk (H7.out.below hb); replace H8 := Aside0.mk (H8.out.below hb); replace X := Aside0.mk (X.out.below hb); replace hx := fun i => X.out.cell i; clear  hb))
        go_ret3
        exact ⟨_, _, rfl, fun w _ => SI.nil _ w, fun w _ => SI.nil _ w, B.out⟩
      | true =>
        rw [if_neg (by simp)]
        by_cases d5 : e5 = 0
        rotate_left
        · rw [if_pos d5]
          have d5a : (e5 == 0) = false := beq_eq_false_iff_ne.2 d5
          have d5b : (e5 != 0) = true := bne_iff_ne.2 d5
          clear d5
          go_enter Try.func159, Try.ntmps159
          go_wp2_with (first | (go_at_call 74; (with_reducible refine (TH.out _).mono ?_); rintro e W1 ⟨rfl, hb⟩; replace B := Aside0.mk (below_then B.out B.out.size hb); replace H5 := Aside0.mk (H5.out.below hb); replace H6 := Aside0.mk (H6.out.below hb); replace H7 := Aside0.mk (H7.out.below hb); replace H8 := Aside0.mk (H8.out.below hb); replace X := Aside0.mk (X.out.below hb); replace hx := fun i => X.out.cell i; clear  hb) | (go_at_call 181; (with_reducible refine (WZ.out _).mono ?_); rintro e W2 ⟨rfl, hb⟩; replace B := Aside0.mk (below_then B.out B.out.size hb); replace H5 := Aside0.mk (H5.out.below hb); replace H6 := Aside0.mk (H6.out.below hb); replace H7 := Aside0.mk (H7.out.below hb); replace H8 := Aside0.mk (H8.out.below hb); replace X := Aside0.mk (X.out.below hb); replace hx := fun i => X.out.cell i; clear  hb) | (go_at_call 181; (with_reducible refine (WC.out _).mono ?_); rintro e W3 ⟨rfl, hb⟩; replace B := Aside0.mk (below_then B.out B.out.size hb); replace H5 := Aside0.mk (H5.out.below hb); replace H6 := Aside0.mk (H6.out.below hb); replace H7 := Aside0.mk (H7.out.below hb); replace H8 := Aside0.mk (H8.out.below hb); replace X := Aside0.mk (X.out.below hb); replace hx := fun i => X.out.cell i; clear  hb) | (go_at_call 182; (with_reducible refine (S5.out _ _ _ H5.out H7.out).mono ?_); rintro e W4 ⟨v5, rfl, hp, hb⟩; have hp := FI.lower hp B.out.size; replace B := Aside0.mk (below_then B.out B.out.size hb); replace H5 := Aside0.mk (H5.out.below hb); replace H6 := Aside0.mk (H6.out.below hb); replace H7 := Aside0.mk (H7.out.below hb); replace H8 := Aside0.mk (H8.out.below hb); replace X := Aside0.mk (X.out.below hb); replace hx := fun i => X.out.cell i; have P5 := Aside0.mk hp; have Q5 := Aside0.mk (show W4.heap.size = W4.heap.size from rfl); have hp' := P5.out; obtain ⟨pA, pc, ep⟩ := hp'.slice; subst ep; clear hp hb))
          go_ret3
          exact ⟨_, _, rfl, fun w _ => SI.nil _ w, fun w _ => SI.nil _ w, B.out⟩
        subst d5
        rw [if_neg (by simp)]
        by_cases d6 : e6 = 0
        rotate_left
        · rw [if_pos d6]
          have d6a : (e6 == 0) = false := beq_eq_false_iff_ne.2 d6
          have d6b : (e6 != 0) = true := bne_iff_ne.2 d6
          clear d6
          go_enter Try.func159, Try.ntmps159
          go_wp2_with (first | (go_at_call 74; (with_reducible refine (TH.out _).mono ?_); rintro e W1 ⟨rfl, hb⟩; replace B := Aside0.mk (below_then B.out B.out.size hb); replace H5 := Aside0.mk (H5.out.below hb); replace H6 := Aside0.mk (H6.out.below hb); replace H7 := Aside0.mk (H7.out.below hb); replace H8 := Aside0.mk (H8.out.below hb); replace X := Aside0.mk (X.out.below hb); replace hx := fun i => X.out.cell i; clear  hb) | (go_at_call 181; (with_reducible refine (WZ.out _).mono ?_); rintro e W2 ⟨rfl, hb⟩; replace B := Aside0.mk (below_then B.out B.out.size hb); replace H5 := Aside0.mk (H5.out.below hb); replace H6 := Aside0.mk (H6.out.below hb); replace H7 := Aside0.mk (H7.out.below hb); replace H8 := Aside0.mk (H8.out.below hb); replace X := Aside0.mk (X.out.below hb); replace hx := fun i => X.out.cell i; clear  hb) | (go_at_call 181; (with_reducible refine (WC.out _).mono ?_); rintro e W3 ⟨rfl, hb⟩; replace B := Aside0.mk (below_then B.out B.out.size hb); replace H5 := Aside0.mk (H5.out.below hb); replace H6 := Aside0.mk (H6.out.below hb); replace H7 := Aside0.mk (H7.out.below hb); replace H8 := Aside0.mk (H8.out.below hb); replace X := Aside0.mk (X.out.below hb); replace hx := fun i => X.out.cell i; clear  hb) | (go_at_call 182; (with_reducible refine (S5.out _ _ _ H5.out H7.out).mono ?_); rintro e W4 ⟨v5, rfl, hp, hb⟩; have hp := FI.lower hp B.out.size; replace B := Aside0.mk (below_then B.out B.out.size hb); replace H5 := Aside0.mk (H5.out.below hb); replace H6 := Aside0.mk (H6.out.below hb); replace H7 := Aside0.mk (H7.out.below hb); replace H8 := Aside0.mk (H8.out.below hb); replace X := Aside0.mk (X.out.below hb); replace hx := fun i => X.out.cell i; have P5 := Aside0.mk hp; have Q5 := Aside0.mk (show W4.heap.size = W4.heap.size from rfl); have hp' := P5.out; obtain ⟨pA, pc, ep⟩ := hp'.slice; subst ep; clear hp hb) | (go_at_call 182; (with_reducible refine (S6.out _ _ _ H6.out H8.out).mono ?_); rintro e W5 ⟨v6, rfl, hp, hb⟩; have hp := FI.lower hp B.out.size; replace B := Aside0.mk (below_then B.out B.out.size hb); replace H5 := Aside0.mk (H5.out.below hb); replace H6 := Aside0.mk (H6.out.below hb); replace H7 := Aside0.mk (H7.out.below hb); replace H8 := Aside0.mk (H8.out.below hb); replace P5 := Aside0.mk (P5.out.step (KA.below hb)); replace X := Aside0.mk (X.out.below hb); replace hx := fun i => X.out.cell i; have P6 := Aside0.mk hp; have hp' := P6.out; obtain ⟨nA, nc, en⟩ := hp'.slice; subst en; clear hp hb))
          go_ret3
          exact ⟨_, _, rfl, fun w _ => SI.nil _ w, fun w _ => SI.nil _ w, B.out⟩
        subst d6
        rw [if_neg (by simp)]
        go_enter Try.func159, Try.ntmps159
        go_wp2_with (first | (go_at_call 74; (with_reducible refine (TH.out _).mono ?_); rintro e W1 ⟨rfl, hb⟩; replace B := Aside0.mk (below_then B.out B.out.size hb); replace H5 := Aside0.mk (H5.out.below hb); replace H6 := Aside0.mk (H6.out.below hb); replace H7 := Aside0.mk (H7.out.below hb); replace H8 := Aside0.mk (H8.out.below hb); replace X := Aside0.mk (X.out.below hb); replace hx := fun i => X.out.cell i; clear  hb) | (go_at_call 181; (with_reducible refine (WZ.out _).mono ?_); rintro e W2 ⟨rfl, hb⟩; replace B := Aside0.mk (below_then B.out B.out.size hb); replace H5 := Aside0.mk (H5.out.below hb); replace H6 := Aside0.mk (H6.out.below hb); replace H7 := Aside0.mk (H7.out.below hb); replace H8 := Aside0.mk (H8.out.below hb); replace X := Aside0.mk (X.out.below hb); replace hx := fun i => X.out.cell i; clear  hb) | (go_at_call 181; (with_reducible refine (WC.out _).mono ?_); rintro e W3 ⟨rfl, hb⟩; replace B := Aside0.mk (below_then B.out B.out.size hb); replace H5 := Aside0.mk (H5.out.below hb); replace H6 := Aside0.mk (H6.out.below hb); replace H7 := Aside0.mk (H7.out.below hb); replace H8 := Aside0.mk (H8.out.below hb); replace X := Aside0.mk (X.out.below hb); replace hx := fun i => X.out.cell i; clear  hb) | (go_at_call 182; (with_reducible refine (S5.out _ _ _ H5.out H7.out).mono ?_); rintro e W4 ⟨v5, rfl, hp, hb⟩; have hp := FI.lower hp B.out.size; replace B := Aside0.mk (below_then B.out B.out.size hb); replace H5 := Aside0.mk (H5.out.below hb); replace H6 := Aside0.mk (H6.out.below hb); replace H7 := Aside0.mk (H7.out.below hb); replace H8 := Aside0.mk (H8.out.below hb); replace X := Aside0.mk (X.out.below hb); replace hx := fun i => X.out.cell i; have P5 := Aside0.mk hp; have Q5 := Aside0.mk (show W4.heap.size = W4.heap.size from rfl); have hp' := P5.out; obtain ⟨pA, pc, ep⟩ := hp'.slice; subst ep; clear hp hb) | (go_at_call 182; (with_reducible refine (S6.out _ _ _ H6.out H8.out).mono ?_); rintro e W5 ⟨v6, rfl, hp, hb⟩; have hp := FI.lower hp B.out.size; replace B := Aside0.mk (below_then B.out B.out.size hb); replace H5 := Aside0.mk (H5.out.below hb); replace H6 := Aside0.mk (H6.out.below hb); replace H7 := Aside0.mk (H7.out.below hb); replace H8 := Aside0.mk (H8.out.below hb); replace P5 := Aside0.mk (P5.out.step (KA.below hb)); replace X := Aside0.mk (X.out.below hb); replace hx := fun i => X.out.cell i; have P6 := Aside0.mk hp; have hp' := P6.out; obtain ⟨nA, nc, en⟩ := hp'.slice; subst en; clear hp hb))
        go_ret3
        exact ⟨_, _, rfl, P5.out, P6.out, B.out⟩
def pairsF (h : Fh) (side : Int) : List Pu × Int := if side = 0 then ((openF h).1, (openF h).2.2) else if side = 1 then ((openF h).2.1, (openF h).2.2) else ([], 11)
end Go.Proofs.Ytacgeafjilipdaa.P
namespace Go.Proofs.Ytacgeafjilipdaa.P
open Go.RowKit Go.Proofs.YtacgeafjilipdaaW.PrintWords Go.Proofs.YtacgeafjilipdaaW.PrintLast Go.Proofs.YtacgeafjilipdaaW.PrintMore
set_option linter.unusedVariables false
set_option linter.unusedSimpArgs false
def numsV (s t zero other count c zc z : Int) : Int := if s ≠ t then 1 else if zero ≠ other then 2 else if c < count then 3 else if z < zc then 4 else 0
def headsR (a b : Hi) : Int := numsV a.f0 b.f0 a.f1 b.f1 a.f3 b.f3 a.f2 b.f2
def verdR (hd : Int) (lp ln : Int × Bool) : Int × Int := if hd ≠ 0 then (hd, 0) else if lp.2 = true then (5, lp.1) else if ln.2 = true then (6, ln.1) else (0, 0)
def intsV (a b : Hi) : Int × Int := verdR (headsR a b) (lessI (openR a).1 (openR b).1) (lessI (openR a).2.1 (openR b).2.1)
def intsR (a b : Hi) : (Int × Int) × Int := if checkR a ≠ 0 then ((0, 0), checkR a) else if checkR b ≠ 0 then ((0, 0), checkR b) else (intsV a b, 0)
theorem verdR_zero {hd : Int} {lp ln : Int × Bool} : (verdR hd lp ln).1 = 0 ↔ hd = 0 ∧ lp.2 = false ∧ ln.2 = false := by
  unfold verdR
  by_cases c1 : hd = 0
  · rw [if_neg (by simp [c1])]
    cases c2 : lp.2
    · rw [if_neg (by simp)]
      cases c3 : ln.2
      · rw [if_neg (by simp)]; simp [c1]
      · rw [if_pos rfl]; simp
    · rw [if_pos rfl]; simp
  · rw [if_pos c1]; simp [c1]
theorem intsV_fst {a b : Hi} (h : (intsV a b).1 = 0) : intsV a b = (0, 0) := by
  unfold intsV at *
  rw [verdR_zero] at h
  unfold verdR
  rw [if_neg (by simp [h.1]), if_neg (by simp [h.2.1]), if_neg (by simp [h.2.2])]
def firstAt {α : Type} (P : α → Bool) : List α → Nat → Int
  | [], _ => -1
  | x :: l, i => if P x = true then (i : Int) else firstAt P l (i + 1)
theorem firstAt_find {α : Type} (P : α → Bool) : ∀ (l : List α) (i : Nat), (firstAt P l i < 0 ∧ l.find? P = none) ∨ (∃ (j : Nat) (h : j < l.length), firstAt P l i = ((i + j : Nat) : Int) ∧ l.find? P = some l[j])
  | [], i => Or.inl ⟨by show (-1 : Int) < 0; omega, rfl⟩
  | x :: l, i => by
    rw [firstAt, List.find?_cons]
    by_cases c : P x = true
    · rw [if_pos c, c]; exact Or.inr ⟨0, by simp, rfl, rfl⟩
    · rw [if_neg c, show P x = false by simpa using c]
      rcases firstAt_find P l (i + 1) with ⟨h1, h2⟩ | ⟨j, h, h1, h2⟩
      · exact Or.inl ⟨h1, h2⟩
      · refine Or.inr ⟨j + 1, by simp; omega, ?_, ?_⟩
        · rw [h1]; congr 1; omega
        · simp only [List.getElem_cons_succ]; exact h2
def headsF (a b : Fh) : Int := numsV a.f0 b.f0 a.f1 b.f1 a.f3 b.f3 a.f2 b.f2
def floatsV (a b : Fh) : Int × Int := verdR (headsF a b) (lessF (openF a).1 (openF b).1) (lessF (openF a).2.1 (openF b).2.1)
def floatsR (a b : Fh) : (Int × Int) × Int := if checkF a ≠ 0 then ((0, 0), checkF a) else if checkF b ≠ 0 then ((0, 0), checkF b) else (floatsV a b, 0)
end Go.Proofs.Ytacgeafjilipdaa.P
namespace Go.Proofs.Ytacgeafjilipdaa.P
open Go.RowKit Go.Shelf Go.Proofs.YtacgeafjilipdaaW.PrintWords Go.Proofs.YtacgeafjilipdaaW.PrintLast Go.Proofs.YtacgeafjilipdaaW.PrintMore
set_option linter.unusedVariables false
set_option linter.unusedSimpArgs false
set_option maxHeartbeats 4000000 in
set_option maxRecDepth 100000 in
theorem pairs_f (h : Hi) (hw : wfH h) (side : Int) (w : World) (v : Value) (hv : HI w v h) : Calls Try.prog 76 #[v, .int .i64 side] w fun e w' =>
    ∃ v0, e = .returned (.tuple #[v0, .int .i64 (pairsR h side).2]) ∧ FI kPr w.heap.size w' v0 (pairsR h side).1 ∧ Below w.heap.size w w' := by
  have hu := Try.underlying64
  obtain ⟨A5, c5, A6, c6, A7, c7, A8, c8, e, -⟩ := hv.open_
  subst e
  have HV := Aside0.mk hv
  have HW := Aside0.mk hw
  clear hv hw
  unfold pairsR
  by_cases c0 : side = 0
  · subst c0
    rw [if_pos rfl]
    go_enter Try.func76, Try.ntmps76
    go_wp2_with (go_at_call 146; (with_reducible refine (open_f h HW.out _ _ (HV.out.below (below_alloc (Below.refl _ _) _))).mono ?_); rintro e w1 ⟨v0, v1, rfl, h0, h1, hb⟩; have HO := Aside0.mk h0; have HB := Aside0.mk (below_then (below_alloc (Below.refl w.heap.size w) _) (by simp) hb); clear h0 h1 hb)
    go_ret2
    exact ⟨_, rfl, HO.out.lower (by simp), HB.out⟩
  · rw [if_neg c0]
    have c0a : (side == 0) = false := beq_eq_false_iff_ne.2 c0
    have c0b : (side != 0) = true := bne_iff_ne.2 c0
    by_cases c1 : side = 1
    · subst c1
      rw [if_pos rfl]
      clear c0
      go_enter Try.func76, Try.ntmps76
      go_wp2_with (go_at_call 146; (with_reducible refine (open_f h HW.out _ _ (HV.out.below (below_alloc (Below.refl _ _) _))).mono ?_); rintro e w1 ⟨v0, v1, rfl, h0, h1, hb⟩; have HO := Aside0.mk h1; have HB := Aside0.mk (below_then (below_alloc (Below.refl w.heap.size w) _) (by simp) hb); clear h0 h1 hb)
      go_ret2
      exact ⟨_, rfl, HO.out.lower (by simp), HB.out⟩
    · rw [if_neg c1]
      have c1a : (side == 1) = false := beq_eq_false_iff_ne.2 c1
      have c1b : (side != 1) = true := bne_iff_ne.2 c1
      clear c0 c1
      go_enter Try.func76, Try.ntmps76
      go_wp2
      go_ret2
      exact ⟨_, rfl, fun w _ => SI.nil _ w, below_alloc (Below.refl _ _) _⟩
set_option maxHeartbeats 4000000 in
set_option maxRecDepth 100000 in
theorem fpairs_f (h : Fh) (hw : wfF h) (side : Int) (w : World) (v : Value) (hv : GI w v h) : Calls Try.prog 100 #[v, .int .i64 side] w fun e w' =>
    ∃ v0, e = .returned (.tuple #[v0, .int .i64 (pairsF h side).2]) ∧ FI kPu w.heap.size w' v0 (pairsF h side).1 ∧ Below w.heap.size w w' := by
  have hu := Try.underlying79
  obtain ⟨A5, c5, A6, c6, A7, c7, A8, c8, e, -⟩ := hv.open_
  subst e
  have HV := Aside0.mk hv
  have HW := Aside0.mk hw
  clear hv hw
  unfold pairsF
  by_cases c0 : side = 0
  · subst c0
    rw [if_pos rfl]
    go_enter Try.func100, Try.ntmps100
    go_wp2_with (go_at_call 159; (with_reducible refine (fopen_f h HW.out _ _ (HV.out.below (below_alloc (Below.refl _ _) _))).mono ?_); rintro e w1 ⟨v0, v1, rfl, h0, h1, hb⟩; have HO := Aside0.mk h0; have HB := Aside0.mk (below_then (below_alloc (Below.refl w.heap.size w) _) (by simp) hb); clear h0 h1 hb)
    go_ret2
    exact ⟨_, rfl, HO.out.lower (by simp), HB.out⟩
  · rw [if_neg c0]
    have c0a : (side == 0) = false := beq_eq_false_iff_ne.2 c0
    have c0b : (side != 0) = true := bne_iff_ne.2 c0
    by_cases c1 : side = 1
    · subst c1
      rw [if_pos rfl]
      clear c0
      go_enter Try.func100, Try.ntmps100
      go_wp2_with (go_at_call 159; (with_reducible refine (fopen_f h HW.out _ _ (HV.out.below (below_alloc (Below.refl _ _) _))).mono ?_); rintro e w1 ⟨v0, v1, rfl, h0, h1, hb⟩; have HO := Aside0.mk h1; have HB := Aside0.mk (below_then (below_alloc (Below.refl w.heap.size w) _) (by simp) hb); clear h0 h1 hb)
      go_ret2
      exact ⟨_, rfl, HO.out.lower (by simp), HB.out⟩
    · rw [if_neg c1]
      have c1a : (side == 1) = false := beq_eq_false_iff_ne.2 c1
      have c1b : (side != 1) = true := bne_iff_ne.2 c1
      clear c0 c1
      go_enter Try.func100, Try.ntmps100
      go_wp2_with (go_at_call 159; (with_reducible refine (fopen_f h HW.out _ _ (HV.out.below (below_alloc (Below.refl _ _) _))).mono ?_); rintro e w1 ⟨v0, v1, rfl, h0, h1, hb⟩; have HO := Aside0.mk h1; have HB := Aside0.mk (below_then (below_alloc (Below.refl w.heap.size w) _) (by simp) hb); clear h0 h1 hb)
      go_ret2
      exact ⟨_, rfl, fun w _ => SI.nil _ w, HB.out⟩
theorem openF_wrong {h : Fh} (hc : checkF h ≠ 0) : (openF h).1 = [] ∧ (openF h).2.1 = [] := by
  unfold checkF openF at *
  repeat' split
  all_goals first | exact ⟨rfl, rfl⟩ | skip
  all_goals exfalso; apply hc; simp [*]
set_option maxHeartbeats 8000000 in
set_option maxRecDepth 100000 in
theorem sidesI_c (h : Hi) (hw : wfH h) (w : World) (v : Value) (hv : HI w v h) : Calls Try.prog 135 #[v, .func (.func 76) #[] #[]] w fun e w' =>
    ∃ v0 v1, e = .returned (.tuple #[.agg #[v0, v1], .int .i64 (checkR h)]) ∧ SI kPr w' v0 (openR h).1 ∧ SI kPr w' v1 (openR h).2.1 ∧ Below w.heap.size w w' := by
  have hu := Try.underlying64
  have p0 := pairs_f h hw 0
  have p1 := pairs_f h hw 1
  rw [show pairsR h 0 = ((openR h).1, checkR h) from rfl] at p0
  rw [show pairsR h 1 = ((openR h).2.1, checkR h) from rfl] at p1
  have hwr := @openR_wrong h
  obtain ⟨A5, c5, A6, c6, A7, c7, A8, c8, e, -⟩ := hv.open_
  subst e
  generalize (openR h).1 = p at *
  generalize (openR h).2.1 = n at *
  generalize checkR h = r at *
  have HV := Aside0.mk hv
  have P0 := Aside0.mk p0
  clear hv hw p0
  by_cases c : r = 0
  rotate_left
  · obtain ⟨hp, hn⟩ := hwr c
    subst hp; subst hn
    have d : (r == 0) = false := beq_eq_false_iff_ne.2 c
    have d2 : (r != 0) = true := bne_iff_ne.2 c
    clear hwr c p1
    go_enter Try.func135, Try.ntmps135
    go_wp2_with (go_at_call 76; (with_reducible refine (P0.out _ _ (HV.out.below (below_alloc (below_alloc (below_alloc (Below.refl w.heap.size w) (.cells #[.int .i64 h.f0, .int .u64 h.f1, .int .u64 h.f2, .int .u64 h.f3, .int .u64 h.f4, .slice A5 h.f5.length c5, .slice A6 h.f6.length c6, .slice A7 h.f7.length c7, .slice A8 h.f8.length c8] 64)) (.cells #[.slice none 0 0, .slice none 0 0] 158)) (.cells #[.slice none 0 0, .slice none 0 0] 158)))).mono ?_); rintro e w1 ⟨v0, rfl, h0, hb⟩; obtain ⟨B0, d0, rfl⟩ := h0.slice; have F0 := Aside0.mk (show FI kPr (w.heap.size + 1 + 1 + 1) w1 (.slice B0 0 d0) ([] : List Pr) by simpa using h0); have HB1 := Aside0.mk (below_then (below_alloc (below_alloc (below_alloc (Below.refl w.heap.size w) (.cells #[.int .i64 h.f0, .int .u64 h.f1, .int .u64 h.f2, .int .u64 h.f3, .int .u64 h.f4, .slice A5 h.f5.length c5, .slice A6 h.f6.length c6, .slice A7 h.f7.length c7, .slice A8 h.f8.length c8] 64)) (.cells #[.slice none 0 0, .slice none 0 0] 158)) (.cells #[.slice none 0 0, .slice none 0 0] 158)) (by simp; omega) hb); have HX1 := Aside0.mk (blk_below (blk_alloc (blk_alloc (blk_new w (.cells #[.int .i64 h.f0, .int .u64 h.f1, .int .u64 h.f2, .int .u64 h.f3, .int .u64 h.f4, .slice A5 h.f5.length c5, .slice A6 h.f6.length c6, .slice A7 h.f7.length c7, .slice A8 h.f8.length c8] 64)) (.cells #[.slice none 0 0, .slice none 0 0] 158)) (.cells #[.slice none 0 0, .slice none 0 0] 158)) hb); have HY1 := Aside0.mk (show w1.heap[w.heap.size + 1]? = some (.cells #[.slice none 0 0, .slice none 0 0] 158 (0, 0)) from blk_below (blk_alloc (show ((w.alloc (.cells #[.int .i64 h.f0, .int .u64 h.f1, .int .u64 h.f2, .int .u64 h.f3, .int .u64 h.f4, .slice A5 h.f5.length c5, .slice A6 h.f6.length c6, .slice A7 h.f7.length c7, .slice A8 h.f8.length c8] 64)).alloc (.cells #[.slice none 0 0, .slice none 0 0] 158)).heap[w.heap.size + 1]? = _ by simpa using blk_new (w.alloc (.cells #[.int .i64 h.f0, .int .u64 h.f1, .int .u64 h.f2, .int .u64 h.f3, .int .u64 h.f4, .slice A5 h.f5.length c5, .slice A6 h.f6.length c6, .slice A7 h.f7.length c7, .slice A8 h.f8.length c8] 64)) (.cells #[.slice none 0 0, .slice none 0 0] 158)) (.cells #[.slice none 0 0, .slice none 0 0] 158)) hb); have HZ1 := Aside0.mk (show w1.heap[w.heap.size + 1 + 1]? = some (.cells #[.slice none 0 0, .slice none 0 0] 158 (0, 0)) from blk_below (show (((w.alloc (.cells #[.int .i64 h.f0, .int .u64 h.f1, .int .u64 h.f2, .int .u64 h.f3, .int .u64 h.f4, .slice A5 h.f5.length c5, .slice A6 h.f6.length c6, .slice A7 h.f7.length c7, .slice A8 h.f8.length c8] 64)).alloc (.cells #[.slice none 0 0, .slice none 0 0] 158)).alloc (.cells #[.slice none 0 0, .slice none 0 0] 158)).heap[w.heap.size + 1 + 1]? = _ by simpa using blk_new ((w.alloc (.cells #[.int .i64 h.f0, .int .u64 h.f1, .int .u64 h.f2, .int .u64 h.f3, .int .u64 h.f4, .slice A5 h.f5.length c5, .slice A6 h.f6.length c6, .slice A7 h.f7.length c7, .slice A8 h.f8.length c8] 64)).alloc (.cells #[.slice none 0 0, .slice none 0 0] 158)) (.cells #[.slice none 0 0, .slice none 0 0] 158)) hb); have hfx := fun i => blk_cell HX1.out i; have hfy := fun i => blk_cell HY1.out i; have hzy := fun i => blk_frozen HY1.out i; have hfz := fun i => blk_cell HZ1.out i; have hzz := fun i => blk_frozen HZ1.out i; clear h0 hb)
    refine bodyPost_ret (results_ct rfl _ _ (w.heap.size + 1) 158 #[.slice B0 0 d0, .slice none 0 0] (0, 0) _ rfl (blk_put (blk_put (blk_far HY1.out (by show w.heap.size + 1 ≠ w.heap.size + 1 + 1; omega) _) 0 _ rfl) 1 _ rfl) Try.underlying158 rfl (by kernel_rfl)) rfl ?_
    exact ⟨_, _, rfl, F0.out.at_ (((KA.set _ (by omega) _).trans (KA.set _ (by omega) _)).trans (KA.set _ (by omega) _)), SI.nil _ _, ((HB1.out.setCell (p := ⟨w.heap.size + 1 + 1, 0, none⟩) (by show w.heap.size ≤ w.heap.size + 1 + 1; omega) _).setCell (p := ⟨w.heap.size + 1, 0, none⟩) (by show w.heap.size ≤ w.heap.size + 1; omega) _).setCell (p := ⟨w.heap.size + 1, 1, none⟩) (by show w.heap.size ≤ w.heap.size + 1; omega) _⟩
  subst c
  have P1 := Aside0.mk p1
  clear hwr p1
  go_enter Try.func135, Try.ntmps135
  go_wp2_with (first | (go_at_call 76; (with_reducible refine (P0.out _ _ (HV.out.below (below_alloc (below_alloc (below_alloc (Below.refl w.heap.size w) (.cells #[.int .i64 h.f0, .int .u64 h.f1, .int .u64 h.f2, .int .u64 h.f3, .int .u64 h.f4, .slice A5 h.f5.length c5, .slice A6 h.f6.length c6, .slice A7 h.f7.length c7, .slice A8 h.f8.length c8] 64)) (.cells #[.slice none 0 0, .slice none 0 0] 158)) (.cells #[.slice none 0 0, .slice none 0 0] 158)))).mono ?_); rintro e w1 ⟨v0, rfl, h0, hb⟩; obtain ⟨B0, d0, rfl⟩ := h0.slice; have F0 := Aside0.mk (show FI kPr (w.heap.size + 1 + 1 + 1) w1 (.slice B0 p.length d0) p by simpa using h0); have HB1 := Aside0.mk (below_then (below_alloc (below_alloc (below_alloc (Below.refl w.heap.size w) (.cells #[.int .i64 h.f0, .int .u64 h.f1, .int .u64 h.f2, .int .u64 h.f3, .int .u64 h.f4, .slice A5 h.f5.length c5, .slice A6 h.f6.length c6, .slice A7 h.f7.length c7, .slice A8 h.f8.length c8] 64)) (.cells #[.slice none 0 0, .slice none 0 0] 158)) (.cells #[.slice none 0 0, .slice none 0 0] 158)) (by simp; omega) hb); have HX1 := Aside0.mk (blk_below (blk_alloc (blk_alloc (blk_new w (.cells #[.int .i64 h.f0, .int .u64 h.f1, .int .u64 h.f2, .int .u64 h.f3, .int .u64 h.f4, .slice A5 h.f5.length c5, .slice A6 h.f6.length c6, .slice A7 h.f7.length c7, .slice A8 h.f8.length c8] 64)) (.cells #[.slice none 0 0, .slice none 0 0] 158)) (.cells #[.slice none 0 0, .slice none 0 0] 158)) hb); have HY1 := Aside0.mk (show w1.heap[w.heap.size + 1]? = some (.cells #[.slice none 0 0, .slice none 0 0] 158 (0, 0)) from blk_below (blk_alloc (show ((w.alloc (.cells #[.int .i64 h.f0, .int .u64 h.f1, .int .u64 h.f2, .int .u64 h.f3, .int .u64 h.f4, .slice A5 h.f5.length c5, .slice A6 h.f6.length c6, .slice A7 h.f7.length c7, .slice A8 h.f8.length c8] 64)).alloc (.cells #[.slice none 0 0, .slice none 0 0] 158)).heap[w.heap.size + 1]? = _ by simpa using blk_new (w.alloc (.cells #[.int .i64 h.f0, .int .u64 h.f1, .int .u64 h.f2, .int .u64 h.f3, .int .u64 h.f4, .slice A5 h.f5.length c5, .slice A6 h.f6.length c6, .slice A7 h.f7.length c7, .slice A8 h.f8.length c8] 64)) (.cells #[.slice none 0 0, .slice none 0 0] 158)) (.cells #[.slice none 0 0, .slice none 0 0] 158)) hb); have HZ1 := Aside0.mk (show w1.heap[w.heap.size + 1 + 1]? = some (.cells #[.slice none 0 0, .slice none 0 0] 158 (0, 0)) from blk_below (show (((w.alloc (.cells #[.int .i64 h.f0, .int .u64 h.f1, .int .u64 h.f2, .int .u64 h.f3, .int .u64 h.f4, .slice A5 h.f5.length c5, .slice A6 h.f6.length c6, .slice A7 h.f7.length c7, .slice A8 h.f8.length c8] 64)).alloc (.cells #[.slice none 0 0, .slice none 0 0] 158)).alloc (.cells #[.slice none 0 0, .slice none 0 0] 158)).heap[w.heap.size + 1 + 1]? = _ by simpa using blk_new ((w.alloc (.cells #[.int .i64 h.f0, .int .u64 h.f1, .int .u64 h.f2, .int .u64 h.f3, .int .u64 h.f4, .slice A5 h.f5.length c5, .slice A6 h.f6.length c6, .slice A7 h.f7.length c7, .slice A8 h.f8.length c8] 64)).alloc (.cells #[.slice none 0 0, .slice none 0 0] 158)) (.cells #[.slice none 0 0, .slice none 0 0] 158)) hb); have hfx := fun i => blk_cell HX1.out i; have hfy := fun i => blk_cell HY1.out i; have hzy := fun i => blk_frozen HY1.out i; have hfz := fun i => blk_cell HZ1.out i; have hzz := fun i => blk_frozen HZ1.out i; clear h0 hb) | (go_at_call 76; ((with_reducible refine (P1.out _ _ (HV.out.below (HB1.out.setCell (p := ⟨w.heap.size + 1 + 1, 0, none⟩) (by show w.heap.size ≤ w.heap.size + 1 + 1; omega) _))).mono ?_); rintro e w2 ⟨v1, rfl, h1, hb⟩; obtain ⟨B1, d1, rfl⟩ := h1.slice; have hs3 := Nat.succ_le_of_lt (blk_lt HZ1.out); have F1 := Aside0.mk (show FI kPr (w.heap.size + 1 + 1 + 1) w2 (.slice B1 n.length d1) n from FI.lower h1 (by simpa [World.setCell] using hs3)); have K2 := Aside0.mk (show KA (w.heap.size + 1 + 1 + 1) w1 w2 from (KA.set _ (by omega) _).trans (KA.below hb)); have HB2 := Aside0.mk (below_then (HB1.out.setCell (p := ⟨w.heap.size + 1 + 1, 0, none⟩) (by show w.heap.size ≤ w.heap.size + 1 + 1; omega) _) (by have := HB1.out.size; simpa [World.setCell] using this) hb); have HY2 := Aside0.mk (blk_below (blk_far HY1.out (by show w.heap.size + 1 ≠ w.heap.size + 1 + 1; omega) _) hb); have HZ2 := Aside0.mk (blk_below (blk_put HZ1.out 0 _ rfl) hb); clear hfx hfy hzy hfz hzz; have hfy := fun i => blk_cell HY2.out i; have hzy := fun i => blk_frozen HY2.out i; have hfz := fun i => blk_cell HZ2.out i; have hzz := fun i => blk_frozen HZ2.out i; clear h1 hb hs3)))
  refine bodyPost_ret (results_ct rfl _ _ (w.heap.size + 1) 158 #[.slice B0 p.length d0, .slice B1 n.length d1] (0, 0) _ rfl (blk_put (blk_put (blk_far HY2.out (by show w.heap.size + 1 ≠ w.heap.size + 1 + 1; omega) _) 0 _ rfl) 1 _ rfl) Try.underlying158 rfl (by kernel_rfl)) rfl ?_
  exact ⟨_, _, rfl, F0.out.at_ (K2.out.trans (((KA.set _ (by omega) _).trans (KA.set _ (by omega) _)).trans (KA.set _ (by omega) _))), F1.out.at_ (((KA.set _ (by omega) _).trans (KA.set _ (by omega) _)).trans (KA.set _ (by omega) _)), ((HB2.out.setCell (p := ⟨w.heap.size + 1 + 1, 1, none⟩) (by show w.heap.size ≤ w.heap.size + 1 + 1; omega) _).setCell (p := ⟨w.heap.size + 1, 0, none⟩) (by show w.heap.size ≤ w.heap.size + 1; omega) _).setCell (p := ⟨w.heap.size + 1, 1, none⟩) (by show w.heap.size ≤ w.heap.size + 1; omega) _⟩
set_option maxHeartbeats 8000000 in
set_option maxRecDepth 100000 in
theorem sidesF_c (h : Fh) (hw : wfF h) (w : World) (v : Value) (hv : GI w v h) : Calls Try.prog 142 #[v, .func (.func 100) #[] #[]] w fun e w' =>
    ∃ v0 v1, e = .returned (.tuple #[.agg #[v0, v1], .int .i64 (checkF h)]) ∧ SI kPu w' v0 (openF h).1 ∧ SI kPu w' v1 (openF h).2.1 ∧ Below w.heap.size w w' := by
  have hu := Try.underlying79
  have p0 := fpairs_f h hw 0
  have p1 := fpairs_f h hw 1
  rw [show pairsF h 0 = ((openF h).1, checkF h) from rfl] at p0
  rw [show pairsF h 1 = ((openF h).2.1, checkF h) from rfl] at p1
  have hwr := @openF_wrong h
  obtain ⟨A5, c5, A6, c6, A7, c7, A8, c8, e, -⟩ := hv.open_
  subst e
  generalize (openF h).1 = p at *
  generalize (openF h).2.1 = n at *
  generalize checkF h = r at *
  have HV := Aside0.mk hv
  have P0 := Aside0.mk p0
  clear hv hw p0
  by_cases c : r = 0
  rotate_left
  · obtain ⟨hp, hn⟩ := hwr c
    subst hp; subst hn
    have d : (r == 0) = false := beq_eq_false_iff_ne.2 c
    have d2 : (r != 0) = true := bne_iff_ne.2 c
    clear hwr c p1
    go_enter Try.func142, Try.ntmps142
    go_wp2_with (go_at_call 100; (with_reducible refine (P0.out _ _ (HV.out.below (below_alloc (below_alloc (below_alloc (Below.refl w.heap.size w) (.cells #[.int .i64 h.f0, .int .u64 h.f1, .int .u64 h.f2, .int .u64 h.f3, .int .u64 h.f4, .slice A5 h.f5.length c5, .slice A6 h.f6.length c6, .slice A7 h.f7.length c7, .slice A8 h.f8.length c8] 79)) (.cells #[.slice none 0 0, .slice none 0 0] 168)) (.cells #[.slice none 0 0, .slice none 0 0] 168)))).mono ?_); rintro e w1 ⟨v0, rfl, h0, hb⟩; obtain ⟨B0, d0, rfl⟩ := h0.slice; have F0 := Aside0.mk (show FI kPu (w.heap.size + 1 + 1 + 1) w1 (.slice B0 0 d0) ([] : List Pu) by simpa using h0); have HB1 := Aside0.mk (below_then (below_alloc (below_alloc (below_alloc (Below.refl w.heap.size w) (.cells #[.int .i64 h.f0, .int .u64 h.f1, .int .u64 h.f2, .int .u64 h.f3, .int .u64 h.f4, .slice A5 h.f5.length c5, .slice A6 h.f6.length c6, .slice A7 h.f7.length c7, .slice A8 h.f8.length c8] 79)) (.cells #[.slice none 0 0, .slice none 0 0] 168)) (.cells #[.slice none 0 0, .slice none 0 0] 168)) (by simp; omega) hb); have HX1 := Aside0.mk (blk_below (blk_alloc (blk_alloc (blk_new w (.cells #[.int .i64 h.f0, .int .u64 h.f1, .int .u64 h.f2, .int .u64 h.f3, .int .u64 h.f4, .slice A5 h.f5.length c5, .slice A6 h.f6.length c6, .slice A7 h.f7.length c7, .slice A8 h.f8.length c8] 79)) (.cells #[.slice none 0 0, .slice none 0 0] 168)) (.cells #[.slice none 0 0, .slice none 0 0] 168)) hb); have HY1 := Aside0.mk (show w1.heap[w.heap.size + 1]? = some (.cells #[.slice none 0 0, .slice none 0 0] 168 (0, 0)) from blk_below (blk_alloc (show ((w.alloc (.cells #[.int .i64 h.f0, .int .u64 h.f1, .int .u64 h.f2, .int .u64 h.f3, .int .u64 h.f4, .slice A5 h.f5.length c5, .slice A6 h.f6.length c6, .slice A7 h.f7.length c7, .slice A8 h.f8.length c8] 79)).alloc (.cells #[.slice none 0 0, .slice none 0 0] 168)).heap[w.heap.size + 1]? = _ by simpa using blk_new (w.alloc (.cells #[.int .i64 h.f0, .int .u64 h.f1, .int .u64 h.f2, .int .u64 h.f3, .int .u64 h.f4, .slice A5 h.f5.length c5, .slice A6 h.f6.length c6, .slice A7 h.f7.length c7, .slice A8 h.f8.length c8] 79)) (.cells #[.slice none 0 0, .slice none 0 0] 168)) (.cells #[.slice none 0 0, .slice none 0 0] 168)) hb); have HZ1 := Aside0.mk (show w1.heap[w.heap.size + 1 + 1]? = some (.cells #[.slice none 0 0, .slice none 0 0] 168 (0, 0)) from blk_below (show (((w.alloc (.cells #[.int .i64 h.f0, .int .u64 h.f1, .int .u64 h.f2, .int .u64 h.f3, .int .u64 h.f4, .slice A5 h.f5.length c5, .slice A6 h.f6.length c6, .slice A7 h.f7.length c7, .slice A8 h.f8.length c8] 79)).alloc (.cells #[.slice none 0 0, .slice none 0 0] 168)).alloc (.cells #[.slice none 0 0, .slice none 0 0] 168)).heap[w.heap.size + 1 + 1]? = _ by simpa using blk_new ((w.alloc (.cells #[.int .i64 h.f0, .int .u64 h.f1, .int .u64 h.f2, .int .u64 h.f3, .int .u64 h.f4, .slice A5 h.f5.length c5, .slice A6 h.f6.length c6, .slice A7 h.f7.length c7, .slice A8 h.f8.length c8] 79)).alloc (.cells #[.slice none 0 0, .slice none 0 0] 168)) (.cells #[.slice none 0 0, .slice none 0 0] 168)) hb); have hfx := fun i => blk_cell HX1.out i; have hfy := fun i => blk_cell HY1.out i; have hzy := fun i => blk_frozen HY1.out i; have hfz := fun i => blk_cell HZ1.out i; have hzz := fun i => blk_frozen HZ1.out i; clear h0 hb)
    refine bodyPost_ret (results_ct rfl _ _ (w.heap.size + 1) 168 #[.slice B0 0 d0, .slice none 0 0] (0, 0) _ rfl (blk_put (blk_put (blk_far HY1.out (by show w.heap.size + 1 ≠ w.heap.size + 1 + 1; omega) _) 0 _ rfl) 1 _ rfl) Try.underlying168 rfl (by kernel_rfl)) rfl ?_
    exact ⟨_, _, rfl, F0.out.at_ (((KA.set _ (by omega) _).trans (KA.set _ (by omega) _)).trans (KA.set _ (by omega) _)), SI.nil _ _, ((HB1.out.setCell (p := ⟨w.heap.size + 1 + 1, 0, none⟩) (by show w.heap.size ≤ w.heap.size + 1 + 1; omega) _).setCell (p := ⟨w.heap.size + 1, 0, none⟩) (by show w.heap.size ≤ w.heap.size + 1; omega) _).setCell (p := ⟨w.heap.size + 1, 1, none⟩) (by show w.heap.size ≤ w.heap.size + 1; omega) _⟩
  subst c
  have P1 := Aside0.mk p1
  clear hwr p1
  go_enter Try.func142, Try.ntmps142
  go_wp2_with (first | (go_at_call 100; (with_reducible refine (P0.out _ _ (HV.out.below (below_alloc (below_alloc (below_alloc (Below.refl w.heap.size w) (.cells #[.int .i64 h.f0, .int .u64 h.f1, .int .u64 h.f2, .int .u64 h.f3, .int .u64 h.f4, .slice A5 h.f5.length c5, .slice A6 h.f6.length c6, .slice A7 h.f7.length c7, .slice A8 h.f8.length c8] 79)) (.cells #[.slice none 0 0, .slice none 0 0] 168)) (.cells #[.slice none 0 0, .slice none 0 0] 168)))).mono ?_); rintro e w1 ⟨v0, rfl, h0, hb⟩; obtain ⟨B0, d0, rfl⟩ := h0.slice; have F0 := Aside0.mk (show FI kPu (w.heap.size + 1 + 1 + 1) w1 (.slice B0 p.length d0) p by simpa using h0); have HB1 := Aside0.mk (below_then (below_alloc (below_alloc (below_alloc (Below.refl w.heap.size w) (.cells #[.int .i64 h.f0, .int .u64 h.f1, .int .u64 h.f2, .int .u64 h.f3, .int .u64 h.f4, .slice A5 h.f5.length c5, .slice A6 h.f6.length c6, .slice A7 h.f7.length c7, .slice A8 h.f8.length c8] 79)) (.cells #[.slice none 0 0, .slice none 0 0] 168)) (.cells #[.slice none 0 0, .slice none 0 0] 168)) (by simp; omega) hb); have HX1 := Aside0.mk (blk_below (blk_alloc (blk_alloc (blk_new w (.cells #[.int .i64 h.f0, .int .u64 h.f1, .int .u64 h.f2, .int .u64 h.f3, .int .u64 h.f4, .slice A5 h.f5.length c5, .slice A6 h.f6.length c6, .slice A7 h.f7.length c7, .slice A8 h.f8.length c8] 79)) (.cells #[.slice none 0 0, .slice none 0 0] 168)) (.cells #[.slice none 0 0, .slice none 0 0] 168)) hb); have HY1 := Aside0.mk (show w1.heap[w.heap.size + 1]? = some (.cells #[.slice none 0 0, .slice none 0 0] 168 (0, 0)) from blk_below (blk_alloc (show ((w.alloc (.cells #[.int .i64 h.f0, .int .u64 h.f1, .int .u64 h.f2, .int .u64 h.f3, .int .u64 h.f4, .slice A5 h.f5.length c5, .slice A6 h.f6.length c6, .slice A7 h.f7.length c7, .slice A8 h.f8.length c8] 79)).alloc (.cells #[.slice none 0 0, .slice none 0 0] 168)).heap[w.heap.size + 1]? = _ by simpa using blk_new (w.alloc (.cells #[.int .i64 h.f0, .int .u64 h.f1, .int .u64 h.f2, .int .u64 h.f3, .int .u64 h.f4, .slice A5 h.f5.length c5, .slice A6 h.f6.length c6, .slice A7 h.f7.length c7, .slice A8 h.f8.length c8] 79)) (.cells #[.slice none 0 0, .slice none 0 0] 168)) (.cells #[.slice none 0 0, .slice none 0 0] 168)) hb); have HZ1 := Aside0.mk (show w1.heap[w.heap.size + 1 + 1]? = some (.cells #[.slice none 0 0, .slice none 0 0] 168 (0, 0)) from blk_below (show (((w.alloc (.cells #[.int .i64 h.f0, .int .u64 h.f1, .int .u64 h.f2, .int .u64 h.f3, .int .u64 h.f4, .slice A5 h.f5.length c5, .slice A6 h.f6.length c6, .slice A7 h.f7.length c7, .slice A8 h.f8.length c8] 79)).alloc (.cells #[.slice none 0 0, .slice none 0 0] 168)).alloc (.cells #[.slice none 0 0, .slice none 0 0] 168)).heap[w.heap.size + 1 + 1]? = _ by simpa using blk_new ((w.alloc (.cells #[.int .i64 h.f0, .int .u64 h.f1, .int .u64 h.f2, .int .u64 h.f3, .int .u64 h.f4, .slice A5 h.f5.length c5, .slice A6 h.f6.length c6, .slice A7 h.f7.length c7, .slice A8 h.f8.length c8] 79)).alloc (.cells #[.slice none 0 0, .slice none 0 0] 168)) (.cells #[.slice none 0 0, .slice none 0 0] 168)) hb); have hfx := fun i => blk_cell HX1.out i; have hfy := fun i => blk_cell HY1.out i; have hzy := fun i => blk_frozen HY1.out i; have hfz := fun i => blk_cell HZ1.out i; have hzz := fun i => blk_frozen HZ1.out i; clear h0 hb) | (go_at_call 100; ((with_reducible refine (P1.out _ _ (HV.out.below (HB1.out.setCell (p := ⟨w.heap.size + 1 + 1, 0, none⟩) (by show w.heap.size ≤ w.heap.size + 1 + 1; omega) _))).mono ?_); rintro e w2 ⟨v1, rfl, h1, hb⟩; obtain ⟨B1, d1, rfl⟩ := h1.slice; have hs3 := Nat.succ_le_of_lt (blk_lt HZ1.out); have F1 := Aside0.mk (show FI kPu (w.heap.size + 1 + 1 + 1) w2 (.slice B1 n.length d1) n from FI.lower h1 (by simpa [World.setCell] using hs3)); have K2 := Aside0.mk (show KA (w.heap.size + 1 + 1 + 1) w1 w2 from (KA.set _ (by omega) _).trans (KA.below hb)); have HB2 := Aside0.mk (below_then (HB1.out.setCell (p := ⟨w.heap.size + 1 + 1, 0, none⟩) (by show w.heap.size ≤ w.heap.size + 1 + 1; omega) _) (by have := HB1.out.size; simpa [World.setCell] using this) hb); have HY2 := Aside0.mk (blk_below (blk_far HY1.out (by show w.heap.size + 1 ≠ w.heap.size + 1 + 1; omega) _) hb); have HZ2 := Aside0.mk (blk_below (blk_put HZ1.out 0 _ rfl) hb); clear hfx hfy hzy hfz hzz; have hfy := fun i => blk_cell HY2.out i; have hzy := fun i => blk_frozen HY2.out i; have hfz := fun i => blk_cell HZ2.out i; have hzz := fun i => blk_frozen HZ2.out i; clear h1 hb hs3)))
  refine bodyPost_ret (results_ct rfl _ _ (w.heap.size + 1) 168 #[.slice B0 p.length d0, .slice B1 n.length d1] (0, 0) _ rfl (blk_put (blk_put (blk_far HY2.out (by show w.heap.size + 1 ≠ w.heap.size + 1 + 1; omega) _) 0 _ rfl) 1 _ rfl) Try.underlying168 rfl (by kernel_rfl)) rfl ?_
  exact ⟨_, _, rfl, F0.out.at_ (K2.out.trans (((KA.set _ (by omega) _).trans (KA.set _ (by omega) _)).trans (KA.set _ (by omega) _))), F1.out.at_ (((KA.set _ (by omega) _).trans (KA.set _ (by omega) _)).trans (KA.set _ (by omega) _)), ((HB2.out.setCell (p := ⟨w.heap.size + 1 + 1, 1, none⟩) (by show w.heap.size ≤ w.heap.size + 1 + 1; omega) _).setCell (p := ⟨w.heap.size + 1, 0, none⟩) (by show w.heap.size ≤ w.heap.size + 1; omega) _).setCell (p := ⟨w.heap.size + 1, 1, none⟩) (by show w.heap.size ≤ w.heap.size + 1; omega) _⟩
end Go.Proofs.Ytacgeafjilipdaa.P
namespace Go.Proofs.Ytacgeafjilipdaa.P
open Go.RowKit Go.Shelf Go.Proofs.YtacgeafjilipdaaW.PrintWords Go.Proofs.YtacgeafjilipdaaW.PrintLast Go.Proofs.YtacgeafjilipdaaW.PrintMore
set_option linter.unusedVariables false
set_option linter.unusedSimpArgs false
theorem heads_eq (s z ct zc t o c zz : Int) : reset_heads.f s z ct zc t o c zz = some (numsV s t z o ct c zc zz) := by
  unfold reset_heads.f numsV
  by_cases h1 : s = t <;> by_cases h2 : z = o <;> by_cases h3 : c < ct <;> by_cases h4 : zz < zc <;> simp [h1, h2, h3, h4]
theorem SI.slc {α : Type} {d : Kd α} {w : World} {v : Value} {l : List α} (h : SI d w v l) : ∃ A c, v = .slice A l.length c := by
  obtain ⟨A, c, e, -⟩ := h
  exact ⟨A, c, e⟩
theorem lessI_c (a b : List Pr) (ha : Ups (fun q : Pr => q.f0) a) (hb : Ups (fun q : Pr => q.f0) b) (hm : a.length ≤ 4096) (w : World) (u v : Value) (hu : SI kPr w u a) (hv : SI kPr w v b) : Calls Try.prog 175 #[u, v] w fun e w' => e = .returned (.tuple #[.int .i64 (lessI a b).1, .bool (lessI a b).2]) ∧ Below w.heap.size w w' := by
  obtain ⟨A, c, rfl, hc, hr⟩ := hu
  obtain ⟨B, d, rfl, hd, hs⟩ := hv
  exact reset_less_int64.calls (a.length * 5 + b.length + 2) A c a (fun k => k < w.heap.size) B d b (lessI a b).1 (lessI a b).2 w hr hc ⟨_, _, rfl, hd, Kd.C_F (show Kd.Heap k26 from Kd.heap_iso _ (Kd.heap_pair (Kd.heap_int .i64) (Kd.heap_int .i64))) hs⟩ (lessI_eq a b ha hb (by omega) _ (by omega))
set_option maxHeartbeats 4000000 in
set_option maxRecDepth 100000 in
theorem verdictI_c (why : Int) (a0 a1 b0 b1 : List Pr) (l0 : ∀ w u v, SI kPr w u a0 → SI kPr w v b0 → Calls Try.prog 175 #[u, v] w fun e w' => e = .returned (.tuple #[.int .i64 (lessI a0 b0).1, .bool (lessI a0 b0).2]) ∧ Below w.heap.size w w')
    (l1 : ∀ w u v, SI kPr w u a1 → SI kPr w v b1 → Calls Try.prog 175 #[u, v] w fun e w' => e = .returned (.tuple #[.int .i64 (lessI a1 b1).1, .bool (lessI a1 b1).2]) ∧ Below w.heap.size w w')
    (w : World) (u0 u1 v0 v1 : Value) (hu0 : SI kPr w u0 a0) (hu1 : SI kPr w u1 a1) (hv0 : SI kPr w v0 b0) (hv1 : SI kPr w v1 b1) : Calls Try.prog 136 #[.int .i64 why, .agg #[u0, u1], .agg #[v0, v1]] w fun e w' =>
    e = .returned (.agg #[.int .i64 (verdR why (lessI a0 b0) (lessI a1 b1)).1, .int .i64 (verdR why (lessI a0 b0) (lessI a1 b1)).2]) ∧ Below w.heap.size w w' := by
  have hua := Try.underlying158
  have huv := Try.underlying67
  generalize lessI a0 b0 = r0 at *
  generalize lessI a1 b1 = r1 at *
  obtain ⟨p, ok⟩ := r0
  obtain ⟨q, ok1⟩ := r1
  simp only at l0 l1
  have L0 := Aside0.mk l0
  have L1 := Aside0.mk l1
  clear l0 l1
  have hu0' := hu0; have hu1' := hu1; have hv0' := hv0; have hv1' := hv1
  obtain ⟨A0, c0, e0, -⟩ := hu0'; subst e0
  obtain ⟨A1, c1, e1, -⟩ := hu1'; subst e1
  obtain ⟨D0, d0, e2, -⟩ := hv0'; subst e2
  obtain ⟨D1, d1, e3, -⟩ := hv1'; subst e3
  have B := Aside0.mk (below_alloc (below_alloc (below_alloc (Below.refl w.heap.size w) (.cells #[.slice A0 a0.length c0, .slice A1 a1.length c1] 158)) (.cells #[.slice D0 b0.length d0, .slice D1 b1.length d1] 158)) (.cells #[.int .i64 0, .int .i64 0] 67))
  have X := Aside0.mk (((Blk.new w #[.slice A0 a0.length c0, .slice A1 a1.length c1] 158).alloc (.cells #[.slice D0 b0.length d0, .slice D1 b1.length d1] 158)).alloc (.cells #[.int .i64 0, .int .i64 0] 67))
  have Y := Aside0.mk ((Blk.at1 (w := w) (.cells #[.slice A0 a0.length c0, .slice A1 a1.length c1] 158) #[.slice D0 b0.length d0, .slice D1 b1.length d1] 158).alloc (.cells #[.int .i64 0, .int .i64 0] 67))
  have Z := Aside0.mk (show Blk (((w.alloc (.cells #[.slice A0 a0.length c0, .slice A1 a1.length c1] 158)).alloc (.cells #[.slice D0 b0.length d0, .slice D1 b1.length d1] 158)).alloc (.cells #[.int .i64 0, .int .i64 0] 67)) (w.heap.size + 1 + 1) #[.int .i64 0, .int .i64 0] 67 by have := Blk.new ((w.alloc (.cells #[.slice A0 a0.length c0, .slice A1 a1.length c1] 158)).alloc (.cells #[.slice D0 b0.length d0, .slice D1 b1.length d1] 158)) #[.int .i64 0, .int .i64 0] 67; simpa using this)
  have hx := fun i => X.out.cell i
  have hy := fun i => Y.out.cell i
  have hz := fun i => Z.out.cell i
  have zz := fun i => blk_frozen Z.out i
  have SA0 := Aside0.mk (hu0.below B.out)
  have SA1 := Aside0.mk (hu1.below B.out)
  have SB0 := Aside0.mk (hv0.below B.out)
  have SB1 := Aside0.mk (hv1.below B.out)
  clear hu0 hu1 hv0 hv1
  unfold verdR
  by_cases cw : why = 0
  rotate_left
  · rw [if_pos cw]
    have cw1 : (why != 0) = true := bne_iff_ne.2 cw
    clear cw
    go_enter Try.func136, Try.ntmps136
    go_wp2
    refine bodyPost_ret (results_cell_row rfl _ _ (w.heap.size + 1 + 1) 67 #[.int .i64 why, .int .i64 0] (0, 0) _ rfl (show Blk _ _ _ _ by have := Blk.new ((w.alloc (.cells #[.slice A0 a0.length c0, .slice A1 a1.length c1] 158)).alloc (.cells #[.slice D0 b0.length d0, .slice D1 b1.length d1] 158)) #[.int .i64 why, .int .i64 0] 67; simpa using this) Try.underlying67 rfl (by kernel_rfl)) rfl ?_
    exact ⟨rfl, below_alloc (below_alloc (below_alloc (Below.refl _ _) _) _) _⟩
  rw [if_neg (by simp [cw])]
  have cw1 : (why != 0) = false := by rw [cw]; rfl
  subst cw
  cases ok with
  | true =>
    simp only [if_true]
    go_enter Try.func136, Try.ntmps136
    go_wp2_with (first | (go_at_call 175; (with_reducible refine (L0.out _ _ _ SA0.out SB0.out).mono ?_); rintro e W1 ⟨rfl, hb⟩; replace B := Aside0.mk (below_then B.out B.out.size hb); replace SA0 := Aside0.mk (SA0.out.below hb); replace SA1 := Aside0.mk (SA1.out.below hb); replace SB0 := Aside0.mk (SB0.out.below hb); replace SB1 := Aside0.mk (SB1.out.below hb); replace X := Aside0.mk (X.out.below hb); replace hx := fun i => X.out.cell i; replace Y := Aside0.mk (Y.out.below hb); replace hy := fun i => Y.out.cell i; replace Z := Aside0.mk (Z.out.below hb); replace hz := fun i => Z.out.cell i; replace zz := fun i => blk_frozen Z.out i; clear  hb))
    refine bodyPost_ret (results_cell_row rfl _ _ (w.heap.size + 1 + 1) 67 #[_, _] (0, 0) _ rfl (blk_put (blk_put Z.out 0 _ rfl) 1 _ rfl) Try.underlying67 rfl (by kernel_rfl)) rfl ?_
    exact ⟨rfl, belowS B.out.size B.out (by omega)⟩
  | false =>
    cases ok1 with
    | true =>
      simp only [if_true, Bool.false_eq_true, if_false]
      go_enter Try.func136, Try.ntmps136
      go_wp2_with (first | (go_at_call 175; (with_reducible refine (L0.out _ _ _ SA0.out SB0.out).mono ?_); rintro e W1 ⟨rfl, hb⟩; replace B := Aside0.mk (below_then B.out B.out.size hb); replace SA0 := Aside0.mk (SA0.out.below hb); replace SA1 := Aside0.mk (SA1.out.below hb); replace SB0 := Aside0.mk (SB0.out.below hb); replace SB1 := Aside0.mk (SB1.out.below hb); replace X := Aside0.mk (X.out.below hb); replace hx := fun i => X.out.cell i; replace Y := Aside0.mk (Y.out.below hb); replace hy := fun i => Y.out.cell i; replace Z := Aside0.mk (Z.out.below hb); replace hz := fun i => Z.out.cell i; replace zz := fun i => blk_frozen Z.out i; clear  hb) | (go_at_call 175; (with_reducible refine (L1.out _ _ _ SA1.out SB1.out).mono ?_); rintro e W2 ⟨rfl, hb⟩; replace B := Aside0.mk (below_then B.out B.out.size hb); replace SA0 := Aside0.mk (SA0.out.below hb); replace SA1 := Aside0.mk (SA1.out.below hb); replace SB0 := Aside0.mk (SB0.out.below hb); replace SB1 := Aside0.mk (SB1.out.below hb); replace X := Aside0.mk (X.out.below hb); replace hx := fun i => X.out.cell i; replace Y := Aside0.mk (Y.out.below hb); replace hy := fun i => Y.out.cell i; replace Z := Aside0.mk (Z.out.below hb); replace hz := fun i => Z.out.cell i; replace zz := fun i => blk_frozen Z.out i; clear  hb))
      refine bodyPost_ret (results_cell_row rfl _ _ (w.heap.size + 1 + 1) 67 #[_, _] (0, 0) _ rfl (blk_put (blk_put Z.out 0 _ rfl) 1 _ rfl) Try.underlying67 rfl (by kernel_rfl)) rfl ?_
      exact ⟨rfl, belowS B.out.size B.out (by omega)⟩
    | false =>
      simp only [Bool.false_eq_true, if_false]
      go_enter Try.func136, Try.ntmps136
      go_wp2_with (first | (go_at_call 175; (with_reducible refine (L0.out _ _ _ SA0.out SB0.out).mono ?_); rintro e W1 ⟨rfl, hb⟩; replace B := Aside0.mk (below_then B.out B.out.size hb); replace SA0 := Aside0.mk (SA0.out.below hb); replace SA1 := Aside0.mk (SA1.out.below hb); replace SB0 := Aside0.mk (SB0.out.below hb); replace SB1 := Aside0.mk (SB1.out.below hb); replace X := Aside0.mk (X.out.below hb); replace hx := fun i => X.out.cell i; replace Y := Aside0.mk (Y.out.below hb); replace hy := fun i => Y.out.cell i; replace Z := Aside0.mk (Z.out.below hb); replace hz := fun i => Z.out.cell i; replace zz := fun i => blk_frozen Z.out i; clear  hb) | (go_at_call 175; (with_reducible refine (L1.out _ _ _ SA1.out SB1.out).mono ?_); rintro e W2 ⟨rfl, hb⟩; replace B := Aside0.mk (below_then B.out B.out.size hb); replace SA0 := Aside0.mk (SA0.out.below hb); replace SA1 := Aside0.mk (SA1.out.below hb); replace SB0 := Aside0.mk (SB0.out.below hb); replace SB1 := Aside0.mk (SB1.out.below hb); replace X := Aside0.mk (X.out.below hb); replace hx := fun i => X.out.cell i; replace Y := Aside0.mk (Y.out.below hb); replace hy := fun i => Y.out.cell i; replace Z := Aside0.mk (Z.out.below hb); replace hz := fun i => Z.out.cell i; replace zz := fun i => blk_frozen Z.out i; clear  hb))
      refine bodyPost_ret (results_cell_row rfl _ _ (w.heap.size + 1 + 1) 67 #[_, _] (0, 0) _ rfl (blk_put (blk_put Z.out 0 _ rfl) 1 _ rfl) Try.underlying67 rfl (by kernel_rfl)) rfl ?_
      exact ⟨rfl, belowS B.out.size B.out (by omega)⟩
theorem headsI_c (a b : Hi) (w : World) : Calls Try.prog 137 #[.agg #[.int .i64 a.f0, .int .u64 a.f1, .int .u64 a.f3, .int .u64 a.f2], .agg #[.int .i64 b.f0, .int .u64 b.f1, .int .u64 b.f3, .int .u64 b.f2]] w fun e w' => e = .returned (.int .i64 (headsR a b)) ∧ Below w.heap.size w w' :=
  reset_heads.calls _ _ _ _ _ _ _ _ _ w (heads_eq _ _ _ _ _ _ _ _)
set_option maxHeartbeats 16000000 in
set_option maxRecDepth 100000 in
theorem resetI_c (a b : Hi) (hwa : wfH a) (hwb : wfH b) (w : World) (u v : Value) (hu : HI w u a) (hv : HI w v b) : Calls Try.prog 56 #[u, v] w fun e w' =>
    e = .returned (.tuple #[.agg #[.int .i64 (intsR a b).1.1, .int .i64 (intsR a b).1.2], .int .i64 (intsR a b).2]) ∧ Below w.heap.size w w' := by
  have hud := Try.underlying64
  have hua := Try.underlying158
  have huv := Try.underlying67
  have ka := sidesI_c a hwa
  have kb := sidesI_c b hwb
  have hd := headsI_c a b
  have ra := openR_row hwa
  have rb := openR_row hwb
  have vd := verdictI_c (headsR a b) (openR a).1 (openR a).2.1 (openR b).1 (openR b).2.1 (lessI_c _ _ ra.1.ups rb.1.ups ra.1.len) (lessI_c _ _ ra.2.ups rb.2.ups ra.2.len)
  unfold intsR intsV
  generalize verdR (headsR a b) (lessI (openR a).1 (openR b).1) (lessI (openR a).2.1 (openR b).2.1) = r at *
  obtain ⟨r1, r2⟩ := r
  generalize headsR a b = hd0 at *
  generalize (openR a).1 = x0 at *
  generalize (openR a).2.1 = x1 at *
  generalize (openR b).1 = y0 at *
  generalize (openR b).2.1 = y1 at *
  generalize checkR a = ea at *
  generalize checkR b = eb at *
  have KA := Aside0.mk ka
  have KB := Aside0.mk kb
  have HD := Aside0.mk hd
  have VD := Aside0.mk vd
  clear ka kb hd vd ra rb hwa hwb
  obtain ⟨A5a, c5a, A6a, c6a, A7a, c7a, A8a, c8a, e, -⟩ := hu.open_
  subst e
  obtain ⟨A5b, c5b, A6b, c6b, A7b, c7b, A8b, c8b, e, -⟩ := hv.open_
  subst e
  have B := Aside0.mk (below_alloc (below_alloc (below_alloc (Below.refl w.heap.size w) (.cells #[.int .i64 a.f0, .int .u64 a.f1, .int .u64 a.f2, .int .u64 a.f3, .int .u64 a.f4, .slice A5a a.f5.length c5a, .slice A6a a.f6.length c6a, .slice A7a a.f7.length c7a, .slice A8a a.f8.length c8a] 64)) (.cells #[.int .i64 b.f0, .int .u64 b.f1, .int .u64 b.f2, .int .u64 b.f3, .int .u64 b.f4, .slice A5b b.f5.length c5b, .slice A6b b.f6.length c6b, .slice A7b b.f7.length c7b, .slice A8b b.f8.length c8b] 64)) (.cells #[.int .i64 0, .int .i64 0] 67))
  have X := Aside0.mk (((Blk.new w #[.int .i64 a.f0, .int .u64 a.f1, .int .u64 a.f2, .int .u64 a.f3, .int .u64 a.f4, .slice A5a a.f5.length c5a, .slice A6a a.f6.length c6a, .slice A7a a.f7.length c7a, .slice A8a a.f8.length c8a] 64).alloc (.cells #[.int .i64 b.f0, .int .u64 b.f1, .int .u64 b.f2, .int .u64 b.f3, .int .u64 b.f4, .slice A5b b.f5.length c5b, .slice A6b b.f6.length c6b, .slice A7b b.f7.length c7b, .slice A8b b.f8.length c8b] 64)).alloc (.cells #[.int .i64 0, .int .i64 0] 67))
  have Y := Aside0.mk ((Blk.at1 (w := w) (.cells #[.int .i64 a.f0, .int .u64 a.f1, .int .u64 a.f2, .int .u64 a.f3, .int .u64 a.f4, .slice A5a a.f5.length c5a, .slice A6a a.f6.length c6a, .slice A7a a.f7.length c7a, .slice A8a a.f8.length c8a] 64) #[.int .i64 b.f0, .int .u64 b.f1, .int .u64 b.f2, .int .u64 b.f3, .int .u64 b.f4, .slice A5b b.f5.length c5b, .slice A6b b.f6.length c6b, .slice A7b b.f7.length c7b, .slice A8b b.f8.length c8b] 64).alloc (.cells #[.int .i64 0, .int .i64 0] 67))
  have Z := Aside0.mk (show Blk (((w.alloc (.cells #[.int .i64 a.f0, .int .u64 a.f1, .int .u64 a.f2, .int .u64 a.f3, .int .u64 a.f4, .slice A5a a.f5.length c5a, .slice A6a a.f6.length c6a, .slice A7a a.f7.length c7a, .slice A8a a.f8.length c8a] 64)).alloc (.cells #[.int .i64 b.f0, .int .u64 b.f1, .int .u64 b.f2, .int .u64 b.f3, .int .u64 b.f4, .slice A5b b.f5.length c5b, .slice A6b b.f6.length c6b, .slice A7b b.f7.length c7b, .slice A8b b.f8.length c8b] 64)).alloc (.cells #[.int .i64 0, .int .i64 0] 67)) (w.heap.size + 1 + 1) #[.int .i64 0, .int .i64 0] 67 by have := Blk.new ((w.alloc (.cells #[.int .i64 a.f0, .int .u64 a.f1, .int .u64 a.f2, .int .u64 a.f3, .int .u64 a.f4, .slice A5a a.f5.length c5a, .slice A6a a.f6.length c6a, .slice A7a a.f7.length c7a, .slice A8a a.f8.length c8a] 64)).alloc (.cells #[.int .i64 b.f0, .int .u64 b.f1, .int .u64 b.f2, .int .u64 b.f3, .int .u64 b.f4, .slice A5b b.f5.length c5b, .slice A6b b.f6.length c6b, .slice A7b b.f7.length c7b, .slice A8b b.f8.length c8b] 64)) #[.int .i64 0, .int .i64 0] 67; simpa using this)
  have hx := fun i => X.out.cell i
  have hy := fun i => Y.out.cell i
  have hz := fun i => Z.out.cell i
  have zz := fun i => blk_frozen Z.out i
  have HA := Aside0.mk (hu.below B.out)
  have HC := Aside0.mk (hv.below B.out)
  clear hu hv
  by_cases c1 : ea = 0
  rotate_left
  · rw [if_pos c1]
    have d1 : (ea != 0) = true := bne_iff_ne.2 c1
    clear c1
    go_enter Try.func56, Try.ntmps56
    go_wp2_with (first | (go_at_call 135; (with_reducible refine (KA.out _ _ HA.out).mono ?_); rintro e W1 ⟨v0, v1, rfl, h0, h1, hb⟩; replace B := Aside0.mk (below_then B.out B.out.size hb); replace HA := Aside0.mk (HA.out.below hb); replace HC := Aside0.mk (HC.out.below hb); replace X := Aside0.mk (X.out.below hb); replace hx := fun i => X.out.cell i; replace Y := Aside0.mk (Y.out.below hb); replace hy := fun i => Y.out.cell i; replace Z := Aside0.mk (Z.out.below hb); replace hz := fun i => Z.out.cell i; replace zz := fun i => blk_frozen Z.out i; have SA0 := Aside0.mk h0; have SA1 := Aside0.mk h1; have e0' := SA0.out; have e1' := SA1.out; obtain ⟨P0, q0, e0⟩ := e0'.slc; subst e0; obtain ⟨P1, q1, e1⟩ := e1'.slc; subst e1; have hsz1 := blk_lt Z.out; have hxa := fun i => (X.out.alloc (.cells #[.slice P0 x0.length q0, .slice P1 x1.length q1] 158)).cell i; have hya := fun i => (Y.out.alloc (.cells #[.slice P0 x0.length q0, .slice P1 x1.length q1] 158)).cell i; have hza := fun i => (Z.out.alloc (.cells #[.slice P0 x0.length q0, .slice P1 x1.length q1] 158)).cell i; clear h0 h1 hb; have zza := fun i => blk_frozen (Z.out.alloc (.cells #[.slice P0 x0.length q0, .slice P1 x1.length q1] 158)) i))
    refine bodyPost_ret (results_ct rfl _ _ (w.heap.size + 1 + 1) 67 #[_, _] (0, 0) _ rfl (Blk.alloc (show Blk _ _ _ _ from blk_put (blk_put Z.out 0 _ rfl) 1 _ rfl) _) Try.underlying67 rfl (by kernel_rfl)) rfl ?_
    exact ⟨rfl, below_alloc (belowS B.out.size B.out (by omega)) _⟩
  subst c1
  rw [if_neg (by simp)]
  by_cases c2 : eb = 0
  rotate_left
  · rw [if_pos c2]
    have d2 : (eb != 0) = true := bne_iff_ne.2 c2
    clear c2
    go_enter Try.func56, Try.ntmps56
    go_wp2_with (first | (go_at_call 135; (with_reducible refine (KA.out _ _ HA.out).mono ?_); rintro e W1 ⟨v0, v1, rfl, h0, h1, hb⟩; replace B := Aside0.mk (below_then B.out B.out.size hb); replace HA := Aside0.mk (HA.out.below hb); replace HC := Aside0.mk (HC.out.below hb); replace X := Aside0.mk (X.out.below hb); replace hx := fun i => X.out.cell i; replace Y := Aside0.mk (Y.out.below hb); replace hy := fun i => Y.out.cell i; replace Z := Aside0.mk (Z.out.below hb); replace hz := fun i => Z.out.cell i; replace zz := fun i => blk_frozen Z.out i; have SA0 := Aside0.mk h0; have SA1 := Aside0.mk h1; have e0' := SA0.out; have e1' := SA1.out; obtain ⟨P0, q0, e0⟩ := e0'.slc; subst e0; obtain ⟨P1, q1, e1⟩ := e1'.slc; subst e1; have hsz1 := blk_lt Z.out; have hxa := fun i => (X.out.alloc (.cells #[.slice P0 x0.length q0, .slice P1 x1.length q1] 158)).cell i; have hya := fun i => (Y.out.alloc (.cells #[.slice P0 x0.length q0, .slice P1 x1.length q1] 158)).cell i; have hza := fun i => (Z.out.alloc (.cells #[.slice P0 x0.length q0, .slice P1 x1.length q1] 158)).cell i; clear h0 h1 hb))
    (try clear hxa hya hza)
    have hal := below_alloc (Below.refl W1.heap.size W1) (.cells #[.slice P0 x0.length q0, .slice P1 x1.length q1] 158)
    replace B := Aside0.mk (below_then B.out B.out.size hal)
    replace HA := Aside0.mk (HA.out.below hal)
    replace HC := Aside0.mk (HC.out.below hal)
    replace SA0 := Aside0.mk (SA0.out.below hal)
    replace SA1 := Aside0.mk (SA1.out.below hal)
    replace X := Aside0.mk (X.out.alloc (.cells #[.slice P0 x0.length q0, .slice P1 x1.length q1] 158)); replace hx := fun i => X.out.cell i
    replace Y := Aside0.mk (Y.out.alloc (.cells #[.slice P0 x0.length q0, .slice P1 x1.length q1] 158)); replace hy := fun i => Y.out.cell i
    replace Z := Aside0.mk (Z.out.alloc (.cells #[.slice P0 x0.length q0, .slice P1 x1.length q1] 158)); replace hz := fun i => Z.out.cell i
    have U := Aside0.mk (Blk.new W1 #[.slice P0 x0.length q0, .slice P1 x1.length q1] 158); have hu := fun i => U.out.cell i; clear hal
    go_wp2_with (first | (go_at_call 135; (with_reducible refine (KB.out _ _ HC.out).mono ?_); rintro e W2 ⟨v2, v3, rfl, h0, h1, hb⟩; replace B := Aside0.mk (below_then B.out B.out.size hb); replace HA := Aside0.mk (HA.out.below hb); replace HC := Aside0.mk (HC.out.below hb); replace SA0 := Aside0.mk (SA0.out.below hb); replace SA1 := Aside0.mk (SA1.out.below hb); replace X := Aside0.mk (X.out.below hb); replace hx := fun i => X.out.cell i; replace Y := Aside0.mk (Y.out.below hb); replace hy := fun i => Y.out.cell i; replace Z := Aside0.mk (Z.out.below hb); replace hz := fun i => Z.out.cell i; replace zz := fun i => blk_frozen Z.out i; replace U := Aside0.mk (U.out.below hb); replace hu := fun i => U.out.cell i; have SB0 := Aside0.mk h0; have SB1 := Aside0.mk h1; have e0' := SB0.out; have e1' := SB1.out; obtain ⟨P2, q2, e0⟩ := e0'.slc; subst e0; obtain ⟨P3, q3, e1⟩ := e1'.slc; subst e1; have hsz2 := blk_lt Z.out; have hxa := fun i => (X.out.alloc (.cells #[.slice P2 y0.length q2, .slice P3 y1.length q3] 158)).cell i; have hya := fun i => (Y.out.alloc (.cells #[.slice P2 y0.length q2, .slice P3 y1.length q3] 158)).cell i; have hza := fun i => (Z.out.alloc (.cells #[.slice P2 y0.length q2, .slice P3 y1.length q3] 158)).cell i; have hua := fun i => (U.out.alloc (.cells #[.slice P2 y0.length q2, .slice P3 y1.length q3] 158)).cell i; clear h0 h1 hb; have zza := fun i => blk_frozen (Z.out.alloc (.cells #[.slice P2 y0.length q2, .slice P3 y1.length q3] 158)) i))
    refine bodyPost_ret (results_ct rfl _ _ (w.heap.size + 1 + 1) 67 #[_, _] (0, 0) _ rfl (Blk.alloc (show Blk _ _ _ _ from blk_put (blk_put Z.out 0 _ rfl) 1 _ rfl) _) Try.underlying67 rfl (by kernel_rfl)) rfl ?_
    exact ⟨rfl, below_alloc (belowS B.out.size B.out (by omega)) _⟩
  subst c2
  rw [if_neg (by simp)]
  go_enter Try.func56, Try.ntmps56
  go_wp2_with (first | (go_at_call 135; (with_reducible refine (KA.out _ _ HA.out).mono ?_); rintro e W1 ⟨v0, v1, rfl, h0, h1, hb⟩; replace B := Aside0.mk (below_then B.out B.out.size hb); replace HA := Aside0.mk (HA.out.below hb); replace HC := Aside0.mk (HC.out.below hb); replace X := Aside0.mk (X.out.below hb); replace hx := fun i => X.out.cell i; replace Y := Aside0.mk (Y.out.below hb); replace hy := fun i => Y.out.cell i; replace Z := Aside0.mk (Z.out.below hb); replace hz := fun i => Z.out.cell i; replace zz := fun i => blk_frozen Z.out i; have SA0 := Aside0.mk h0; have SA1 := Aside0.mk h1; have e0' := SA0.out; have e1' := SA1.out; obtain ⟨P0, q0, e0⟩ := e0'.slc; subst e0; obtain ⟨P1, q1, e1⟩ := e1'.slc; subst e1; have hsz1 := blk_lt Z.out; have hxa := fun i => (X.out.alloc (.cells #[.slice P0 x0.length q0, .slice P1 x1.length q1] 158)).cell i; have hya := fun i => (Y.out.alloc (.cells #[.slice P0 x0.length q0, .slice P1 x1.length q1] 158)).cell i; have hza := fun i => (Z.out.alloc (.cells #[.slice P0 x0.length q0, .slice P1 x1.length q1] 158)).cell i; clear h0 h1 hb))
  (try clear hxa hya hza)
  have hal := below_alloc (Below.refl W1.heap.size W1) (.cells #[.slice P0 x0.length q0, .slice P1 x1.length q1] 158)
  replace B := Aside0.mk (below_then B.out B.out.size hal)
  replace HA := Aside0.mk (HA.out.below hal)
  replace HC := Aside0.mk (HC.out.below hal)
  replace SA0 := Aside0.mk (SA0.out.below hal)
  replace SA1 := Aside0.mk (SA1.out.below hal)
  replace X := Aside0.mk (X.out.alloc (.cells #[.slice P0 x0.length q0, .slice P1 x1.length q1] 158)); replace hx := fun i => X.out.cell i
  replace Y := Aside0.mk (Y.out.alloc (.cells #[.slice P0 x0.length q0, .slice P1 x1.length q1] 158)); replace hy := fun i => Y.out.cell i
  replace Z := Aside0.mk (Z.out.alloc (.cells #[.slice P0 x0.length q0, .slice P1 x1.length q1] 158)); replace hz := fun i => Z.out.cell i
  have U := Aside0.mk (Blk.new W1 #[.slice P0 x0.length q0, .slice P1 x1.length q1] 158); have hu := fun i => U.out.cell i; clear hal
  go_wp2_with (first | (go_at_call 135; (with_reducible refine (KB.out _ _ HC.out).mono ?_); rintro e W2 ⟨v2, v3, rfl, h0, h1, hb⟩; replace B := Aside0.mk (below_then B.out B.out.size hb); replace HA := Aside0.mk (HA.out.below hb); replace HC := Aside0.mk (HC.out.below hb); replace SA0 := Aside0.mk (SA0.out.below hb); replace SA1 := Aside0.mk (SA1.out.below hb); replace X := Aside0.mk (X.out.below hb); replace hx := fun i => X.out.cell i; replace Y := Aside0.mk (Y.out.below hb); replace hy := fun i => Y.out.cell i; replace Z := Aside0.mk (Z.out.below hb); replace hz := fun i => Z.out.cell i; replace zz := fun i => blk_frozen Z.out i; replace U := Aside0.mk (U.out.below hb); replace hu := fun i => U.out.cell i; have SB0 := Aside0.mk h0; have SB1 := Aside0.mk h1; have e0' := SB0.out; have e1' := SB1.out; obtain ⟨P2, q2, e0⟩ := e0'.slc; subst e0; obtain ⟨P3, q3, e1⟩ := e1'.slc; subst e1; have hsz2 := blk_lt Z.out; have hxa := fun i => (X.out.alloc (.cells #[.slice P2 y0.length q2, .slice P3 y1.length q3] 158)).cell i; have hya := fun i => (Y.out.alloc (.cells #[.slice P2 y0.length q2, .slice P3 y1.length q3] 158)).cell i; have hza := fun i => (Z.out.alloc (.cells #[.slice P2 y0.length q2, .slice P3 y1.length q3] 158)).cell i; have hua := fun i => (U.out.alloc (.cells #[.slice P2 y0.length q2, .slice P3 y1.length q3] 158)).cell i; clear h0 h1 hb))
  (try clear hxa hya hza hua)
  have hal := below_alloc (Below.refl W2.heap.size W2) (.cells #[.slice P2 y0.length q2, .slice P3 y1.length q3] 158)
  replace B := Aside0.mk (below_then B.out B.out.size hal)
  replace HA := Aside0.mk (HA.out.below hal)
  replace HC := Aside0.mk (HC.out.below hal)
  replace SA0 := Aside0.mk (SA0.out.below hal)
  replace SA1 := Aside0.mk (SA1.out.below hal)
  replace SB0 := Aside0.mk (SB0.out.below hal)
  replace SB1 := Aside0.mk (SB1.out.below hal)
  replace X := Aside0.mk (X.out.alloc (.cells #[.slice P2 y0.length q2, .slice P3 y1.length q3] 158)); replace hx := fun i => X.out.cell i
  replace Y := Aside0.mk (Y.out.alloc (.cells #[.slice P2 y0.length q2, .slice P3 y1.length q3] 158)); replace hy := fun i => Y.out.cell i
  replace Z := Aside0.mk (Z.out.alloc (.cells #[.slice P2 y0.length q2, .slice P3 y1.length q3] 158)); replace hz := fun i => Z.out.cell i
  replace U := Aside0.mk (U.out.alloc (.cells #[.slice P2 y0.length q2, .slice P3 y1.length q3] 158)); replace hu := fun i => U.out.cell i
  have V := Aside0.mk (Blk.new W2 #[.slice P2 y0.length q2, .slice P3 y1.length q3] 158); have hv := fun i => V.out.cell i; clear hal
  replace HA := Aside0.mk (HA.out.below (below_drew (Below.refl _ _)))
  replace HC := Aside0.mk (HC.out.below (below_drew (Below.refl _ _)))
  replace SA0 := Aside0.mk (SA0.out.below (below_drew (Below.refl _ _)))
  replace SA1 := Aside0.mk (SA1.out.below (below_drew (Below.refl _ _)))
  replace SB0 := Aside0.mk (SB0.out.below (below_drew (Below.refl _ _)))
  replace SB1 := Aside0.mk (SB1.out.below (below_drew (Below.refl _ _)))
  replace X := Aside0.mk (X.out.below (below_drew (Below.refl _ _)))
  replace Y := Aside0.mk (Y.out.below (below_drew (Below.refl _ _)))
  replace Z := Aside0.mk (Z.out.below (below_drew (Below.refl _ _)))
  replace U := Aside0.mk (U.out.below (below_drew (Below.refl _ _)))
  replace V := Aside0.mk (V.out.below (below_drew (Below.refl _ _)))
  replace B := Aside0.mk (below_drew B.out)
  go_region_held3 (fun W => (∀ i, W.cell? ⟨w.heap.size, i, none⟩ = (#[.int .i64 a.f0, .int .u64 a.f1, .int .u64 a.f2, .int .u64 a.f3, .int .u64 a.f4, .slice A5a a.f5.length c5a, .slice A6a a.f6.length c6a, .slice A7a a.f7.length c7a, .slice A8a a.f8.length c8a] : Array Value)[i]?) ∧ (∀ i, W.cell? ⟨w.heap.size + 1, i, none⟩ = (#[.int .i64 b.f0, .int .u64 b.f1, .int .u64 b.f2, .int .u64 b.f3, .int .u64 b.f4, .slice A5b b.f5.length c5b, .slice A6b b.f6.length c6b, .slice A7b b.f7.length c7b, .slice A8b b.f8.length c8b] : Array Value)[i]?) ∧ (∀ i, W.cell? ⟨W1.heap.size, i, none⟩ = (#[.slice P0 x0.length q0, .slice P1 x1.length q1] : Array Value)[i]?) ∧ (∀ i, W.cell? ⟨W2.heap.size, i, none⟩ = (#[.slice P2 y0.length q2, .slice P3 y1.length q3] : Array Value)[i]?)) (first | exact ⟨fun i => X.out.cell i, fun i => Y.out.cell i, fun i => U.out.cell i, fun i => V.out.cell i⟩ | exact ⟨fun i => blk_cell (blk_far X.out (by show w.heap.size ≠ w.heap.size + 1 + 1; omega) _) i, fun i => blk_cell (blk_far Y.out (by show w.heap.size + 1 ≠ w.heap.size + 1 + 1; omega) _) i, fun i => blk_cell (blk_far U.out (by show W1.heap.size ≠ w.heap.size + 1 + 1; omega) _) i, fun i => blk_cell (blk_far V.out (by show W2.heap.size ≠ w.heap.size + 1 + 1; omega) _) i⟩ | exact ⟨fun i => blk_cell (blk_far (blk_far X.out (by show w.heap.size ≠ w.heap.size + 1 + 1; omega) _) (by show w.heap.size ≠ w.heap.size + 1 + 1; omega) _) i, fun i => blk_cell (blk_far (blk_far Y.out (by show w.heap.size + 1 ≠ w.heap.size + 1 + 1; omega) _) (by show w.heap.size + 1 ≠ w.heap.size + 1 + 1; omega) _) i, fun i => blk_cell (blk_far (blk_far U.out (by show W1.heap.size ≠ w.heap.size + 1 + 1; omega) _) (by show W1.heap.size ≠ w.heap.size + 1 + 1; omega) _) i, fun i => blk_cell (blk_far (blk_far V.out (by show W2.heap.size ≠ w.heap.size + 1 + 1; omega) _) (by show W2.heap.size ≠ w.heap.size + 1 + 1; omega) _) i⟩) (first | (go_at_call 137; (with_reducible refine (HD.out _).mono ?_); rintro e W3 ⟨rfl, hb⟩; replace B := Aside0.mk (below_then B.out B.out.size hb); replace HA := Aside0.mk (HA.out.below hb); replace HC := Aside0.mk (HC.out.below hb); replace SA0 := Aside0.mk (SA0.out.below hb); replace SA1 := Aside0.mk (SA1.out.below hb); replace SB0 := Aside0.mk (SB0.out.below hb); replace SB1 := Aside0.mk (SB1.out.below hb); replace X := Aside0.mk (X.out.below hb); replace hx := fun i => X.out.cell i; replace Y := Aside0.mk (Y.out.below hb); replace hy := fun i => Y.out.cell i; replace Z := Aside0.mk (Z.out.below hb); replace hz := fun i => Z.out.cell i; replace zz := fun i => blk_frozen Z.out i; replace U := Aside0.mk (U.out.below hb); replace hu := fun i => U.out.cell i; replace V := Aside0.mk (V.out.below hb); replace hv := fun i => V.out.cell i; clear  hb) | (go_at_call 136; (with_reducible refine (VD.out _ _ _ _ _ SA0.out SA1.out SB0.out SB1.out).mono ?_); rintro e W4 ⟨rfl, hb⟩; replace B := Aside0.mk (below_then B.out B.out.size hb); replace HA := Aside0.mk (HA.out.below hb); replace HC := Aside0.mk (HC.out.below hb); replace SA0 := Aside0.mk (SA0.out.below hb); replace SA1 := Aside0.mk (SA1.out.below hb); replace SB0 := Aside0.mk (SB0.out.below hb); replace SB1 := Aside0.mk (SB1.out.below hb); replace X := Aside0.mk (X.out.below hb); replace hx := fun i => X.out.cell i; replace Y := Aside0.mk (Y.out.below hb); replace hy := fun i => Y.out.cell i; replace Z := Aside0.mk (Z.out.below hb); replace hz := fun i => Z.out.cell i; replace zz := fun i => blk_frozen Z.out i; replace U := Aside0.mk (U.out.below hb); replace hu := fun i => U.out.cell i; replace V := Aside0.mk (V.out.below hb); replace hv := fun i => V.out.cell i; clear  hb))
  all_goals go_wp2
  all_goals (refine bodyPost_ret (results_ct rfl _ _ (w.heap.size + 1 + 1) 67 #[_, _] (0, 0) _ rfl (blk_put (blk_put (Z.out) 0 _ rfl) 1 _ rfl) Try.underlying67 rfl (by kernel_rfl)) rfl ?_; exact ⟨rfl, belowS B.out.size B.out (by omega)⟩)
def sameR (a b : Hi) : Bool := decide ((intsR a b).2 = 0) && decide ((intsR b a).2 = 0) && decide ((intsR a b).1 = (intsR b a).1) && decide ((intsR a b).1.1 = 0)
set_option maxHeartbeats 16000000 in
set_option maxRecDepth 100000 in
theorem same11_c (a b : Hi) (hwa : wfH a) (hwb : wfH b) (w : World) (u v : Value) (hu : HI w u a) (hv : HI w v b) : Calls Try.prog 59 #[u, v] w fun e w' => e = .returned (.bool (sameR a b)) ∧ Below w.heap.size w w' := by
  have hud := Try.underlying64
  have huv := Try.underlying67
  have ka := resetI_c a b hwa hwb
  have kb := resetI_c b a hwb hwa
  unfold sameR
  generalize intsR a b = r at *
  generalize intsR b a = s at *
  obtain ⟨⟨x1, x2⟩, e⟩ := r
  obtain ⟨⟨y1, y2⟩, f⟩ := s
  simp only at ka kb ⊢
  have KA := Aside0.mk ka
  have KB := Aside0.mk kb
  clear ka kb hwa hwb
  obtain ⟨A5a, c5a, A6a, c6a, A7a, c7a, A8a, c8a, e9, -⟩ := hu.open_
  subst e9
  obtain ⟨A5b, c5b, A6b, c6b, A7b, c7b, A8b, c8b, e9, -⟩ := hv.open_
  subst e9
  have B := Aside0.mk (below_alloc (below_alloc (Below.refl w.heap.size w) (.cells #[.int .i64 a.f0, .int .u64 a.f1, .int .u64 a.f2, .int .u64 a.f3, .int .u64 a.f4, .slice A5a a.f5.length c5a, .slice A6a a.f6.length c6a, .slice A7a a.f7.length c7a, .slice A8a a.f8.length c8a] 64)) (.cells #[.int .i64 b.f0, .int .u64 b.f1, .int .u64 b.f2, .int .u64 b.f3, .int .u64 b.f4, .slice A5b b.f5.length c5b, .slice A6b b.f6.length c6b, .slice A7b b.f7.length c7b, .slice A8b b.f8.length c8b] 64))
  have X := Aside0.mk ((Blk.new w #[.int .i64 a.f0, .int .u64 a.f1, .int .u64 a.f2, .int .u64 a.f3, .int .u64 a.f4, .slice A5a a.f5.length c5a, .slice A6a a.f6.length c6a, .slice A7a a.f7.length c7a, .slice A8a a.f8.length c8a] 64).alloc (.cells #[.int .i64 b.f0, .int .u64 b.f1, .int .u64 b.f2, .int .u64 b.f3, .int .u64 b.f4, .slice A5b b.f5.length c5b, .slice A6b b.f6.length c6b, .slice A7b b.f7.length c7b, .slice A8b b.f8.length c8b] 64))
  have Y := Aside0.mk (Blk.at1 (w := w) (.cells #[.int .i64 a.f0, .int .u64 a.f1, .int .u64 a.f2, .int .u64 a.f3, .int .u64 a.f4, .slice A5a a.f5.length c5a, .slice A6a a.f6.length c6a, .slice A7a a.f7.length c7a, .slice A8a a.f8.length c8a] 64) #[.int .i64 b.f0, .int .u64 b.f1, .int .u64 b.f2, .int .u64 b.f3, .int .u64 b.f4, .slice A5b b.f5.length c5b, .slice A6b b.f6.length c6b, .slice A7b b.f7.length c7b, .slice A8b b.f8.length c8b] 64)
  have hx := fun i => X.out.cell i
  have hy := fun i => Y.out.cell i
  have HA := Aside0.mk (hu.below B.out)
  have HC := Aside0.mk (hv.below B.out)
  clear hu hv
  have fin : ∀ t : Bool, t = (decide (e = 0) && decide (f = 0) && decide ((x1, x2) = (y1, y2)) && decide (x1 = 0)) → (decide (e = 0) && decide (f = 0) && decide ((x1, x2) = (y1, y2)) && decide (x1 = 0)) = t := fun t h => h.symm
  have FIN := Aside0.mk fin
  clear fin
  by_cases c1 : e = 0
  rotate_left
  · have d1 : (e == 0) = false := beq_eq_false_iff_ne.2 c1
    rw [FIN.out false (by rw [decide_eq_false c1]; simp)]
    clear c1 FIN
    go_enter Try.func59, Try.ntmps59
    go_wp2_with (first | (go_at_call 56; (with_reducible refine (KA.out _ _ _ HA.out HC.out).mono ?_); rintro e W1 ⟨rfl, hb⟩; replace B := Aside0.mk (below_then B.out B.out.size hb); replace HA := Aside0.mk (HA.out.below hb); replace HC := Aside0.mk (HC.out.below hb); replace X := Aside0.mk (X.out.below hb); replace hx := fun i => X.out.cell i; replace Y := Aside0.mk (Y.out.below hb); replace hy := fun i => Y.out.cell i; have hxa := fun i => (X.out.alloc (.cells #[.int .i64 x1, .int .i64 x2] 67)).cell i; have hya := fun i => (Y.out.alloc (.cells #[.int .i64 x1, .int .i64 x2] 67)).cell i; clear  hb))
    (try clear hxa hya)
    have hal := below_alloc (Below.refl W1.heap.size W1) (.cells #[.int .i64 x1, .int .i64 x2] 67)
    replace B := Aside0.mk (below_then B.out B.out.size hal)
    replace HA := Aside0.mk (HA.out.below hal)
    replace HC := Aside0.mk (HC.out.below hal)
    replace X := Aside0.mk (X.out.alloc (.cells #[.int .i64 x1, .int .i64 x2] 67)); replace hx := fun i => X.out.cell i
    replace Y := Aside0.mk (Y.out.alloc (.cells #[.int .i64 x1, .int .i64 x2] 67)); replace hy := fun i => Y.out.cell i
    have U := Aside0.mk (Blk.new W1 #[.int .i64 x1, .int .i64 x2] 67); have hu := fun i => U.out.cell i; clear hal
    go_wp2_with (first | (go_at_call 56; (with_reducible refine (KB.out _ _ _ HC.out HA.out).mono ?_); rintro e W2 ⟨rfl, hb⟩; replace B := Aside0.mk (below_then B.out B.out.size hb); replace HA := Aside0.mk (HA.out.below hb); replace HC := Aside0.mk (HC.out.below hb); replace X := Aside0.mk (X.out.below hb); replace hx := fun i => X.out.cell i; replace Y := Aside0.mk (Y.out.below hb); replace hy := fun i => Y.out.cell i; replace U := Aside0.mk (U.out.below hb); replace hu := fun i => U.out.cell i; clear  hb; have hbv := below_alloc (Below.refl W2.heap.size W2) (.cells #[.int .i64 y1, .int .i64 y2] 67); replace B := Aside0.mk (below_then B.out B.out.size hbv); have V := Aside0.mk (Blk.new W2 #[.int .i64 y1, .int .i64 y2] 67); have hv2 := fun i => V.out.cell i; replace U := Aside0.mk (U.out.below hbv); replace hu := fun i => U.out.cell i; clear hbv))
    all_goals go_ret
    all_goals exact ⟨rfl, B.out⟩
  subst c1
  by_cases c2 : f = 0
  rotate_left
  · have d1 : (f == 0) = false := beq_eq_false_iff_ne.2 c2
    rw [FIN.out false (by rw [decide_eq_false c2]; simp)]
    clear c2 FIN
    go_enter Try.func59, Try.ntmps59
    go_wp2_with (first | (go_at_call 56; (with_reducible refine (KA.out _ _ _ HA.out HC.out).mono ?_); rintro e W1 ⟨rfl, hb⟩; replace B := Aside0.mk (below_then B.out B.out.size hb); replace HA := Aside0.mk (HA.out.below hb); replace HC := Aside0.mk (HC.out.below hb); replace X := Aside0.mk (X.out.below hb); replace hx := fun i => X.out.cell i; replace Y := Aside0.mk (Y.out.below hb); replace hy := fun i => Y.out.cell i; have hxa := fun i => (X.out.alloc (.cells #[.int .i64 x1, .int .i64 x2] 67)).cell i; have hya := fun i => (Y.out.alloc (.cells #[.int .i64 x1, .int .i64 x2] 67)).cell i; clear  hb))
    (try clear hxa hya)
    have hal := below_alloc (Below.refl W1.heap.size W1) (.cells #[.int .i64 x1, .int .i64 x2] 67)
    replace B := Aside0.mk (below_then B.out B.out.size hal)
    replace HA := Aside0.mk (HA.out.below hal)
    replace HC := Aside0.mk (HC.out.below hal)
    replace X := Aside0.mk (X.out.alloc (.cells #[.int .i64 x1, .int .i64 x2] 67)); replace hx := fun i => X.out.cell i
    replace Y := Aside0.mk (Y.out.alloc (.cells #[.int .i64 x1, .int .i64 x2] 67)); replace hy := fun i => Y.out.cell i
    have U := Aside0.mk (Blk.new W1 #[.int .i64 x1, .int .i64 x2] 67); have hu := fun i => U.out.cell i; clear hal
    go_wp2_with (first | (go_at_call 56; (with_reducible refine (KB.out _ _ _ HC.out HA.out).mono ?_); rintro e W2 ⟨rfl, hb⟩; replace B := Aside0.mk (below_then B.out B.out.size hb); replace HA := Aside0.mk (HA.out.below hb); replace HC := Aside0.mk (HC.out.below hb); replace X := Aside0.mk (X.out.below hb); replace hx := fun i => X.out.cell i; replace Y := Aside0.mk (Y.out.below hb); replace hy := fun i => Y.out.cell i; replace U := Aside0.mk (U.out.below hb); replace hu := fun i => U.out.cell i; clear  hb; have hbv := below_alloc (Below.refl W2.heap.size W2) (.cells #[.int .i64 y1, .int .i64 y2] 67); replace B := Aside0.mk (below_then B.out B.out.size hbv); have V := Aside0.mk (Blk.new W2 #[.int .i64 y1, .int .i64 y2] 67); have hv2 := fun i => V.out.cell i; replace U := Aside0.mk (U.out.below hbv); replace hu := fun i => U.out.cell i; clear hbv))
    all_goals go_ret
    all_goals exact ⟨rfl, B.out⟩
  subst c2
  by_cases c3 : x1 = y1
  rotate_left
  · have d1 : (x1 == y1) = false := beq_eq_false_iff_ne.2 c3
    rw [FIN.out false (by rw [decide_eq_false (show ¬ ((x1, x2) = (y1, y2)) from fun h => c3 (by injection h))]; simp)]
    clear c3 FIN
    go_enter Try.func59, Try.ntmps59
    go_wp2_with (first | (go_at_call 56; (with_reducible refine (KA.out _ _ _ HA.out HC.out).mono ?_); rintro e W1 ⟨rfl, hb⟩; replace B := Aside0.mk (below_then B.out B.out.size hb); replace HA := Aside0.mk (HA.out.below hb); replace HC := Aside0.mk (HC.out.below hb); replace X := Aside0.mk (X.out.below hb); replace hx := fun i => X.out.cell i; replace Y := Aside0.mk (Y.out.below hb); replace hy := fun i => Y.out.cell i; have hxa := fun i => (X.out.alloc (.cells #[.int .i64 x1, .int .i64 x2] 67)).cell i; have hya := fun i => (Y.out.alloc (.cells #[.int .i64 x1, .int .i64 x2] 67)).cell i; clear  hb))
    (try clear hxa hya)
    have hal := below_alloc (Below.refl W1.heap.size W1) (.cells #[.int .i64 x1, .int .i64 x2] 67)
    replace B := Aside0.mk (below_then B.out B.out.size hal)
    replace HA := Aside0.mk (HA.out.below hal)
    replace HC := Aside0.mk (HC.out.below hal)
    replace X := Aside0.mk (X.out.alloc (.cells #[.int .i64 x1, .int .i64 x2] 67)); replace hx := fun i => X.out.cell i
    replace Y := Aside0.mk (Y.out.alloc (.cells #[.int .i64 x1, .int .i64 x2] 67)); replace hy := fun i => Y.out.cell i
    have U := Aside0.mk (Blk.new W1 #[.int .i64 x1, .int .i64 x2] 67); have hu := fun i => U.out.cell i; clear hal
    go_wp2_with (first | (go_at_call 56; (with_reducible refine (KB.out _ _ _ HC.out HA.out).mono ?_); rintro e W2 ⟨rfl, hb⟩; replace B := Aside0.mk (below_then B.out B.out.size hb); replace HA := Aside0.mk (HA.out.below hb); replace HC := Aside0.mk (HC.out.below hb); replace X := Aside0.mk (X.out.below hb); replace hx := fun i => X.out.cell i; replace Y := Aside0.mk (Y.out.below hb); replace hy := fun i => Y.out.cell i; replace U := Aside0.mk (U.out.below hb); replace hu := fun i => U.out.cell i; clear  hb; have hbv := below_alloc (Below.refl W2.heap.size W2) (.cells #[.int .i64 y1, .int .i64 y2] 67); replace B := Aside0.mk (below_then B.out B.out.size hbv); have V := Aside0.mk (Blk.new W2 #[.int .i64 y1, .int .i64 y2] 67); have hv2 := fun i => V.out.cell i; replace U := Aside0.mk (U.out.below hbv); replace hu := fun i => U.out.cell i; clear hbv))
    all_goals go_ret
    all_goals exact ⟨rfl, B.out⟩
  subst c3
  by_cases c3 : x2 = y2
  rotate_left
  · have d1 : (x2 == y2) = false := beq_eq_false_iff_ne.2 c3
    have d2 : (x1 == x1) = true := beq_self_eq_true _
    rw [FIN.out false (by rw [decide_eq_false (show ¬ ((x1, x2) = (x1, y2)) from fun h => c3 (by injection h))]; simp)]
    clear c3 FIN
    go_enter Try.func59, Try.ntmps59
    go_wp2_with (first | (go_at_call 56; (with_reducible refine (KA.out _ _ _ HA.out HC.out).mono ?_); rintro e W1 ⟨rfl, hb⟩; replace B := Aside0.mk (below_then B.out B.out.size hb); replace HA := Aside0.mk (HA.out.below hb); replace HC := Aside0.mk (HC.out.below hb); replace X := Aside0.mk (X.out.below hb); replace hx := fun i => X.out.cell i; replace Y := Aside0.mk (Y.out.below hb); replace hy := fun i => Y.out.cell i; have hxa := fun i => (X.out.alloc (.cells #[.int .i64 x1, .int .i64 x2] 67)).cell i; have hya := fun i => (Y.out.alloc (.cells #[.int .i64 x1, .int .i64 x2] 67)).cell i; clear  hb))
    (try clear hxa hya)
    have hal := below_alloc (Below.refl W1.heap.size W1) (.cells #[.int .i64 x1, .int .i64 x2] 67)
    replace B := Aside0.mk (below_then B.out B.out.size hal)
    replace HA := Aside0.mk (HA.out.below hal)
    replace HC := Aside0.mk (HC.out.below hal)
    replace X := Aside0.mk (X.out.alloc (.cells #[.int .i64 x1, .int .i64 x2] 67)); replace hx := fun i => X.out.cell i
    replace Y := Aside0.mk (Y.out.alloc (.cells #[.int .i64 x1, .int .i64 x2] 67)); replace hy := fun i => Y.out.cell i
    have U := Aside0.mk (Blk.new W1 #[.int .i64 x1, .int .i64 x2] 67); have hu := fun i => U.out.cell i; clear hal
    go_wp2_with (first | (go_at_call 56; (with_reducible refine (KB.out _ _ _ HC.out HA.out).mono ?_); rintro e W2 ⟨rfl, hb⟩; replace B := Aside0.mk (below_then B.out B.out.size hb); replace HA := Aside0.mk (HA.out.below hb); replace HC := Aside0.mk (HC.out.below hb); replace X := Aside0.mk (X.out.below hb); replace hx := fun i => X.out.cell i; replace Y := Aside0.mk (Y.out.below hb); replace hy := fun i => Y.out.cell i; replace U := Aside0.mk (U.out.below hb); replace hu := fun i => U.out.cell i; clear  hb; have hbv := below_alloc (Below.refl W2.heap.size W2) (.cells #[.int .i64 x1, .int .i64 y2] 67); replace B := Aside0.mk (below_then B.out B.out.size hbv); have V := Aside0.mk (Blk.new W2 #[.int .i64 x1, .int .i64 y2] 67); have hv2 := fun i => V.out.cell i; replace U := Aside0.mk (U.out.below hbv); replace hu := fun i => U.out.cell i; clear hbv))
    all_goals go_ret
    all_goals exact ⟨rfl, B.out⟩
  subst c3
  by_cases c4 : x1 = 0
  · have d1 : (x1 == 0) = true := beq_iff_eq.2 c4
    rw [FIN.out true (by rw [decide_eq_true c4]; simp)]
    clear c4 FIN
    go_enter Try.func59, Try.ntmps59
    go_wp2_with (first | (go_at_call 56; (with_reducible refine (KA.out _ _ _ HA.out HC.out).mono ?_); rintro e W1 ⟨rfl, hb⟩; replace B := Aside0.mk (below_then B.out B.out.size hb); replace HA := Aside0.mk (HA.out.below hb); replace HC := Aside0.mk (HC.out.below hb); replace X := Aside0.mk (X.out.below hb); replace hx := fun i => X.out.cell i; replace Y := Aside0.mk (Y.out.below hb); replace hy := fun i => Y.out.cell i; have hxa := fun i => (X.out.alloc (.cells #[.int .i64 x1, .int .i64 x2] 67)).cell i; have hya := fun i => (Y.out.alloc (.cells #[.int .i64 x1, .int .i64 x2] 67)).cell i; clear  hb))
    (try clear hxa hya)
    have hal := below_alloc (Below.refl W1.heap.size W1) (.cells #[.int .i64 x1, .int .i64 x2] 67)
    replace B := Aside0.mk (below_then B.out B.out.size hal)
    replace HA := Aside0.mk (HA.out.below hal)
    replace HC := Aside0.mk (HC.out.below hal)
    replace X := Aside0.mk (X.out.alloc (.cells #[.int .i64 x1, .int .i64 x2] 67)); replace hx := fun i => X.out.cell i
    replace Y := Aside0.mk (Y.out.alloc (.cells #[.int .i64 x1, .int .i64 x2] 67)); replace hy := fun i => Y.out.cell i
    have U := Aside0.mk (Blk.new W1 #[.int .i64 x1, .int .i64 x2] 67); have hu := fun i => U.out.cell i; clear hal
    go_wp2_with (first | (go_at_call 56; (with_reducible refine (KB.out _ _ _ HC.out HA.out).mono ?_); rintro e W2 ⟨rfl, hb⟩; replace B := Aside0.mk (below_then B.out B.out.size hb); replace HA := Aside0.mk (HA.out.below hb); replace HC := Aside0.mk (HC.out.below hb); replace X := Aside0.mk (X.out.below hb); replace hx := fun i => X.out.cell i; replace Y := Aside0.mk (Y.out.below hb); replace hy := fun i => Y.out.cell i; replace U := Aside0.mk (U.out.below hb); replace hu := fun i => U.out.cell i; clear  hb; have hbv := below_alloc (Below.refl W2.heap.size W2) (.cells #[.int .i64 x1, .int .i64 x2] 67); replace B := Aside0.mk (below_then B.out B.out.size hbv); have V := Aside0.mk (Blk.new W2 #[.int .i64 x1, .int .i64 x2] 67); have hv2 := fun i => V.out.cell i; replace U := Aside0.mk (U.out.below hbv); replace hu := fun i => U.out.cell i; clear hbv))
    all_goals go_ret
    all_goals exact ⟨rfl, B.out⟩
  · have d1 : (x1 == 0) = false := beq_eq_false_iff_ne.2 c4
    rw [FIN.out false (by rw [decide_eq_false c4]; simp)]
    clear c4 FIN
    go_enter Try.func59, Try.ntmps59
    go_wp2_with (first | (go_at_call 56; (with_reducible refine (KA.out _ _ _ HA.out HC.out).mono ?_); rintro e W1 ⟨rfl, hb⟩; replace B := Aside0.mk (below_then B.out B.out.size hb); replace HA := Aside0.mk (HA.out.below hb); replace HC := Aside0.mk (HC.out.below hb); replace X := Aside0.mk (X.out.below hb); replace hx := fun i => X.out.cell i; replace Y := Aside0.mk (Y.out.below hb); replace hy := fun i => Y.out.cell i; have hxa := fun i => (X.out.alloc (.cells #[.int .i64 x1, .int .i64 x2] 67)).cell i; have hya := fun i => (Y.out.alloc (.cells #[.int .i64 x1, .int .i64 x2] 67)).cell i; clear  hb))
    (try clear hxa hya)
    have hal := below_alloc (Below.refl W1.heap.size W1) (.cells #[.int .i64 x1, .int .i64 x2] 67)
    replace B := Aside0.mk (below_then B.out B.out.size hal)
    replace HA := Aside0.mk (HA.out.below hal)
    replace HC := Aside0.mk (HC.out.below hal)
    replace X := Aside0.mk (X.out.alloc (.cells #[.int .i64 x1, .int .i64 x2] 67)); replace hx := fun i => X.out.cell i
    replace Y := Aside0.mk (Y.out.alloc (.cells #[.int .i64 x1, .int .i64 x2] 67)); replace hy := fun i => Y.out.cell i
    have U := Aside0.mk (Blk.new W1 #[.int .i64 x1, .int .i64 x2] 67); have hu := fun i => U.out.cell i; clear hal
    go_wp2_with (first | (go_at_call 56; (with_reducible refine (KB.out _ _ _ HC.out HA.out).mono ?_); rintro e W2 ⟨rfl, hb⟩; replace B := Aside0.mk (below_then B.out B.out.size hb); replace HA := Aside0.mk (HA.out.below hb); replace HC := Aside0.mk (HC.out.below hb); replace X := Aside0.mk (X.out.below hb); replace hx := fun i => X.out.cell i; replace Y := Aside0.mk (Y.out.below hb); replace hy := fun i => Y.out.cell i; replace U := Aside0.mk (U.out.below hb); replace hu := fun i => U.out.cell i; clear  hb; have hbv := below_alloc (Below.refl W2.heap.size W2) (.cells #[.int .i64 x1, .int .i64 x2] 67); replace B := Aside0.mk (below_then B.out B.out.size hbv); have V := Aside0.mk (Blk.new W2 #[.int .i64 x1, .int .i64 x2] 67); have hv2 := fun i => V.out.cell i; replace U := Aside0.mk (U.out.below hbv); replace hu := fun i => U.out.cell i; clear hbv))
    all_goals go_ret
    all_goals exact ⟨rfl, B.out⟩
end Go.Proofs.Ytacgeafjilipdaa.P
namespace Go.Proofs.Ytacgeafjilipdaa.P
open Go.RowKit Go.Shelf Go.Proofs.YtacgeafjilipdaaW.PrintWords Go.Proofs.YtacgeafjilipdaaW.PrintLast Go.Proofs.YtacgeafjilipdaaW.PrintMore
set_option linter.unusedVariables false
set_option linter.unusedSimpArgs false
def wfRowU (l : List Pu) : Prop := wfPus l ∧ l.length < 4398046511104
structure RowOKU (l : List Pu) : Prop where
  wf : wfRowU l
  len : l.length ≤ 4096
  cnt : ∀ p ∈ l, rightF p.f1 = true
  ups : Ups (fun p : Pu => p.f0) l
theorem RowOKU.nil : RowOKU [] := ⟨⟨fun s hs => by simp at hs, by simp⟩, by simp, fun s hs => by simp at hs, Ups.nil⟩
theorem zip_upsU : ∀ (ps v : List Int), ps.Pairwise (· < ·) → Ups (fun p : Pu => p.f0) (List.zipWith (fun p x => (⟨p, x⟩ : Pu)) ps v)
  | [], _, _ => by simp [Ups]
  | p :: ps, [], _ => by simp [Ups]
  | p :: ps, x :: v, h => by
    have h1 := List.pairwise_cons.1 h
    refine List.pairwise_cons.2 ⟨fun y hy => ?_, zip_upsU ps v h1.2⟩
    have : y.f0 ∈ ps := by
      obtain ⟨i, hi, rfl⟩ := List.mem_iff_getElem.1 hy
      simp only [List.getElem_zipWith]; exact List.getElem_mem _
    exact h1.1 _ this
theorem sideF_row {l : List Sp} {c : List Int} (hc : u64s c) : RowOKU (sideF l c).1 := by
  unfold sideF
  by_cases c1 : spCheck l = 0
  rotate_left
  · rw [if_neg c1]; exact RowOKU.nil
  rw [if_pos c1]
  by_cases c2 : cntN l = c.length
  rotate_left
  · rw [if_neg c2]; exact RowOKU.nil
  rw [if_pos c2]
  by_cases c3 : c.any (fun v => !rightF v) = true
  · rw [if_pos c3]; exact RowOKU.nil
  rw [if_neg c3]
  have hr := rises_of_right c1
  have hf : ∀ p ∈ List.zipWith (fun p x => (⟨p, x⟩ : Pu)) (plN 0 l) c, (-1048576 ≤ p.f0 ∧ p.f0 ≤ 1048576) ∧ p.f1 ∈ c := by
    intro y hy
    obtain ⟨i, hi, rfl⟩ := List.mem_iff_getElem.1 hy
    simp only [List.getElem_zipWith]
    exact ⟨rises_i64 hr _ (List.getElem_mem _), List.getElem_mem _⟩
  have hl : (List.zipWith (fun p x => (⟨p, x⟩ : Pu)) (plN 0 l) c).length ≤ 4096 := by have := places_len c1; simp; omega
  simp only
  refine ⟨⟨fun p hp => ?_, by omega⟩, hl, fun p hp => ?_, zip_upsU _ _ (rises_ups _ _ hr).1⟩
  · have h1 := hf p hp; have h2 := h1.1; exact ⟨⟨by omega, by omega⟩, hc _ h1.2⟩
  · have h1 := hf p hp
    cases hq : rightF p.f1 with
    | true => rfl
    | false => exact absurd (List.any_eq_true.2 ⟨_, h1.2, by rw [hq]; rfl⟩) c3
theorem openF_row {h : Fh} (hw : wfF h) : RowOKU (openF h).1 ∧ RowOKU (openF h).2.1 := by
  obtain ⟨-, -, -, -, -, -, -, h7, h8, -⟩ := hw
  have a := sideF_row (l := h.f5) h7
  have b := sideF_row (l := h.f6) h8
  unfold openF
  repeat' split
  all_goals first | exact ⟨a, b⟩ | exact ⟨RowOKU.nil, RowOKU.nil⟩
end Go.Proofs.Ytacgeafjilipdaa.P
namespace Go.Proofs.Ytacgeafjilipdaa.P
open Go.RowKit Go.Shelf Go.Proofs.YtacgeafjilipdaaW.PrintWords Go.Proofs.YtacgeafjilipdaaW.PrintLast Go.Proofs.YtacgeafjilipdaaW.PrintMore
set_option linter.unusedVariables false
set_option linter.unusedSimpArgs false
theorem lessF_c (a b : List Pu) (ha : Ups (fun q : Pu => q.f0) a) (hb : Ups (fun q : Pu => q.f0) b) (hm : a.length ≤ 4096) (w : World) (u v : Value) (hu : SI kPu w u a) (hv : SI kPu w v b) : Calls Try.prog 177 #[u, v] w fun e w' => e = .returned (.tuple #[.int .i64 (lessF a b).1, .bool (lessF a b).2]) ∧ Below w.heap.size w w' := by
  obtain ⟨A, c, rfl, hc, hr⟩ := hu
  obtain ⟨B, d, rfl, hd, hs⟩ := hv
  exact reset_less_uint64.calls (a.length * 5 + b.length + 2) A c a (fun k => k < w.heap.size) B d b (lessF a b).1 (lessF a b).2 w hr hc ⟨_, _, rfl, hd, Kd.C_F (show Kd.Heap k123 from Kd.heap_iso _ (Kd.heap_pair (Kd.heap_int .i64) (Kd.heap_int .u64))) hs⟩ (lessF_eq a b ha hb (by omega) _ (by omega))
set_option maxHeartbeats 4000000 in
set_option maxRecDepth 100000 in
theorem verdictF_c (why : Int) (a0 a1 b0 b1 : List Pu) (l0 : ∀ w u v, SI kPu w u a0 → SI kPu w v b0 → Calls Try.prog 177 #[u, v] w fun e w' => e = .returned (.tuple #[.int .i64 (lessF a0 b0).1, .bool (lessF a0 b0).2]) ∧ Below w.heap.size w w')
    (l1 : ∀ w u v, SI kPu w u a1 → SI kPu w v b1 → Calls Try.prog 177 #[u, v] w fun e w' => e = .returned (.tuple #[.int .i64 (lessF a1 b1).1, .bool (lessF a1 b1).2]) ∧ Below w.heap.size w w')
    (w : World) (u0 u1 v0 v1 : Value) (hu0 : SI kPu w u0 a0) (hu1 : SI kPu w u1 a1) (hv0 : SI kPu w v0 b0) (hv1 : SI kPu w v1 b1) : Calls Try.prog 143 #[.int .i64 why, .agg #[u0, u1], .agg #[v0, v1]] w fun e w' =>
    e = .returned (.agg #[.int .i64 (verdR why (lessF a0 b0) (lessF a1 b1)).1, .int .i64 (verdR why (lessF a0 b0) (lessF a1 b1)).2]) ∧ Below w.heap.size w w' := by
  have hua := Try.underlying168
  have huv := Try.underlying67
  generalize lessF a0 b0 = r0 at *
  generalize lessF a1 b1 = r1 at *
  obtain ⟨p, ok⟩ := r0
  obtain ⟨q, ok1⟩ := r1
  simp only at l0 l1
  have L0 := Aside0.mk l0
  have L1 := Aside0.mk l1
  clear l0 l1
  have hu0' := hu0; have hu1' := hu1; have hv0' := hv0; have hv1' := hv1
  obtain ⟨A0, c0, e0, -⟩ := hu0'; subst e0
  obtain ⟨A1, c1, e1, -⟩ := hu1'; subst e1
  obtain ⟨D0, d0, e2, -⟩ := hv0'; subst e2
  obtain ⟨D1, d1, e3, -⟩ := hv1'; subst e3
  have B := Aside0.mk (below_alloc (below_alloc (below_alloc (Below.refl w.heap.size w) (.cells #[.slice A0 a0.length c0, .slice A1 a1.length c1] 168)) (.cells #[.slice D0 b0.length d0, .slice D1 b1.length d1] 168)) (.cells #[.int .i64 0, .int .i64 0] 67))
  have X := Aside0.mk (((Blk.new w #[.slice A0 a0.length c0, .slice A1 a1.length c1] 168).alloc (.cells #[.slice D0 b0.length d0, .slice D1 b1.length d1] 168)).alloc (.cells #[.int .i64 0, .int .i64 0] 67))
  have Y := Aside0.mk ((Blk.at1 (w := w) (.cells #[.slice A0 a0.length c0, .slice A1 a1.length c1] 168) #[.slice D0 b0.length d0, .slice D1 b1.length d1] 168).alloc (.cells #[.int .i64 0, .int .i64 0] 67))
  have Z := Aside0.mk (show Blk (((w.alloc (.cells #[.slice A0 a0.length c0, .slice A1 a1.length c1] 168)).alloc (.cells #[.slice D0 b0.length d0, .slice D1 b1.length d1] 168)).alloc (.cells #[.int .i64 0, .int .i64 0] 67)) (w.heap.size + 1 + 1) #[.int .i64 0, .int .i64 0] 67 by have := Blk.new ((w.alloc (.cells #[.slice A0 a0.length c0, .slice A1 a1.length c1] 168)).alloc (.cells #[.slice D0 b0.length d0, .slice D1 b1.length d1] 168)) #[.int .i64 0, .int .i64 0] 67; simpa using this)
  have hx := fun i => X.out.cell i
  have hy := fun i => Y.out.cell i
  have hz := fun i => Z.out.cell i
  have zz := fun i => blk_frozen Z.out i
  have SA0 := Aside0.mk (hu0.below B.out)
  have SA1 := Aside0.mk (hu1.below B.out)
  have SB0 := Aside0.mk (hv0.below B.out)
  have SB1 := Aside0.mk (hv1.below B.out)
  clear hu0 hu1 hv0 hv1
  unfold verdR
  by_cases cw : why = 0
  rotate_left
  · rw [if_pos cw]
    have cw1 : (why != 0) = true := bne_iff_ne.2 cw
    clear cw
    go_enter Try.func143, Try.ntmps143
    go_wp2
    refine bodyPost_ret (results_cell_row rfl _ _ (w.heap.size + 1 + 1) 67 #[.int .i64 why, .int .i64 0] (0, 0) _ rfl (show Blk _ _ _ _ by have := Blk.new ((w.alloc (.cells #[.slice A0 a0.length c0, .slice A1 a1.length c1] 168)).alloc (.cells #[.slice D0 b0.length d0, .slice D1 b1.length d1] 168)) #[.int .i64 why, .int .i64 0] 67; simpa using this) Try.underlying67 rfl (by kernel_rfl)) rfl ?_
    exact ⟨rfl, below_alloc (below_alloc (below_alloc (Below.refl _ _) _) _) _⟩
  rw [if_neg (by simp [cw])]
  have cw1 : (why != 0) = false := by rw [cw]; rfl
  subst cw
  cases ok with
  | true =>
    simp only [if_true]
    go_enter Try.func143, Try.ntmps143
    go_wp2_with (first | (go_at_call 177; (with_reducible refine (L0.out _ _ _ SA0.out SB0.out).mono ?_); rintro e W1 ⟨rfl, hb⟩; replace B := Aside0.mk (below_then B.out B.out.size hb); replace SA0 := Aside0.mk (SA0.out.below hb); replace SA1 := Aside0.mk (SA1.out.below hb); replace SB0 := Aside0.mk (SB0.out.below hb); replace SB1 := Aside0.mk (SB1.out.below hb); replace X := Aside0.mk (X.out.below hb); replace hx := fun i => X.out.cell i; replace Y := Aside0.mk (Y.out.below hb); replace hy := fun i => Y.out.cell i; replace Z := Aside0.mk (Z.out.below hb); replace hz := fun i => Z.out.cell i; replace zz := fun i => blk_frozen Z.out i; clear  hb))
    refine bodyPost_ret (results_cell_row rfl _ _ (w.heap.size + 1 + 1) 67 #[_, _] (0, 0) _ rfl (blk_put (blk_put Z.out 0 _ rfl) 1 _ rfl) Try.underlying67 rfl (by kernel_rfl)) rfl ?_
    exact ⟨rfl, belowS B.out.size B.out (by omega)⟩
  | false =>
    cases ok1 with
    | true =>
      simp only [if_true, Bool.false_eq_true, if_false]
      go_enter Try.func143, Try.ntmps143
      go_wp2_with (first | (go_at_call 177; (with_reducible refine (L0.out _ _ _ SA0.out SB0.out).mono ?_); rintro e W1 ⟨rfl, hb⟩; replace B := Aside0.mk (below_then B.out B.out.size hb); replace SA0 := Aside0.mk (SA0.out.below hb); replace SA1 := Aside0.mk (SA1.out.below hb); replace SB0 := Aside0.mk (SB0.out.below hb); replace SB1 := Aside0.mk (SB1.out.below hb); replace X := Aside0.mk (X.out.below hb); replace hx := fun i => X.out.cell i; replace Y := Aside0.mk (Y.out.below hb); replace hy := fun i => Y.out.cell i; replace Z := Aside0.mk (Z.out.below hb); replace hz := fun i => Z.out.cell i; replace zz := fun i => blk_frozen Z.out i; clear  hb) | (go_at_call 177; (with_reducible refine (L1.out _ _ _ SA1.out SB1.out).mono ?_); rintro e W2 ⟨rfl, hb⟩; replace B := Aside0.mk (below_then B.out B.out.size hb); replace SA0 := Aside0.mk (SA0.out.below hb); replace SA1 := Aside0.mk (SA1.out.below hb); replace SB0 := Aside0.mk (SB0.out.below hb); replace SB1 := Aside0.mk (SB1.out.below hb); replace X := Aside0.mk (X.out.below hb); replace hx := fun i => X.out.cell i; replace Y := Aside0.mk (Y.out.below hb); replace hy := fun i => Y.out.cell i; replace Z := Aside0.mk (Z.out.below hb); replace hz := fun i => Z.out.cell i; replace zz := fun i => blk_frozen Z.out i; clear  hb))
      refine bodyPost_ret (results_cell_row rfl _ _ (w.heap.size + 1 + 1) 67 #[_, _] (0, 0) _ rfl (blk_put (blk_put Z.out 0 _ rfl) 1 _ rfl) Try.underlying67 rfl (by kernel_rfl)) rfl ?_
      exact ⟨rfl, belowS B.out.size B.out (by omega)⟩
    | false =>
      simp only [Bool.false_eq_true, if_false]
      go_enter Try.func143, Try.ntmps143
      go_wp2_with (first | (go_at_call 177; (with_reducible refine (L0.out _ _ _ SA0.out SB0.out).mono ?_); rintro e W1 ⟨rfl, hb⟩; replace B := Aside0.mk (below_then B.out B.out.size hb); replace SA0 := Aside0.mk (SA0.out.below hb); replace SA1 := Aside0.mk (SA1.out.below hb); replace SB0 := Aside0.mk (SB0.out.below hb); replace SB1 := Aside0.mk (SB1.out.below hb); replace X := Aside0.mk (X.out.below hb); replace hx := fun i => X.out.cell i; replace Y := Aside0.mk (Y.out.below hb); replace hy := fun i => Y.out.cell i; replace Z := Aside0.mk (Z.out.below hb); replace hz := fun i => Z.out.cell i; replace zz := fun i => blk_frozen Z.out i; clear  hb) | (go_at_call 177; (with_reducible refine (L1.out _ _ _ SA1.out SB1.out).mono ?_); rintro e W2 ⟨rfl, hb⟩; replace B := Aside0.mk (below_then B.out B.out.size hb); replace SA0 := Aside0.mk (SA0.out.below hb); replace SA1 := Aside0.mk (SA1.out.below hb); replace SB0 := Aside0.mk (SB0.out.below hb); replace SB1 := Aside0.mk (SB1.out.below hb); replace X := Aside0.mk (X.out.below hb); replace hx := fun i => X.out.cell i; replace Y := Aside0.mk (Y.out.below hb); replace hy := fun i => Y.out.cell i; replace Z := Aside0.mk (Z.out.below hb); replace hz := fun i => Z.out.cell i; replace zz := fun i => blk_frozen Z.out i; clear  hb))
      refine bodyPost_ret (results_cell_row rfl _ _ (w.heap.size + 1 + 1) 67 #[_, _] (0, 0) _ rfl (blk_put (blk_put Z.out 0 _ rfl) 1 _ rfl) Try.underlying67 rfl (by kernel_rfl)) rfl ?_
      exact ⟨rfl, belowS B.out.size B.out (by omega)⟩
theorem headsF_c (a b : Fh) (w : World) : Calls Try.prog 137 #[.agg #[.int .i64 a.f0, .int .u64 a.f1, .int .u64 a.f3, .int .u64 a.f2], .agg #[.int .i64 b.f0, .int .u64 b.f1, .int .u64 b.f3, .int .u64 b.f2]] w fun e w' => e = .returned (.int .i64 (headsF a b)) ∧ Below w.heap.size w w' :=
  reset_heads.calls _ _ _ _ _ _ _ _ _ w (heads_eq _ _ _ _ _ _ _ _)
set_option maxHeartbeats 16000000 in
set_option maxRecDepth 100000 in
theorem resetF_c (a b : Fh) (hwa : wfF a) (hwb : wfF b) (w : World) (u v : Value) (hu : GI w u a) (hv : GI w v b) : Calls Try.prog 62 #[u, v] w fun e w' =>
    e = .returned (.tuple #[.agg #[.int .i64 (floatsR a b).1.1, .int .i64 (floatsR a b).1.2], .int .i64 (floatsR a b).2]) ∧ Below w.heap.size w w' := by
  have hud := Try.underlying79
  have hua := Try.underlying168
  have huv := Try.underlying67
  have ka := sidesF_c a hwa
  have kb := sidesF_c b hwb
  have hd := headsF_c a b
  have ra := openF_row hwa
  have rb := openF_row hwb
  have vd := verdictF_c (headsF a b) (openF a).1 (openF a).2.1 (openF b).1 (openF b).2.1 (lessF_c _ _ ra.1.ups rb.1.ups ra.1.len) (lessF_c _ _ ra.2.ups rb.2.ups ra.2.len)
  unfold floatsR floatsV
  generalize verdR (headsF a b) (lessF (openF a).1 (openF b).1) (lessF (openF a).2.1 (openF b).2.1) = r at *
  obtain ⟨r1, r2⟩ := r
  generalize headsF a b = hd0 at *
  generalize (openF a).1 = x0 at *
  generalize (openF a).2.1 = x1 at *
  generalize (openF b).1 = y0 at *
  generalize (openF b).2.1 = y1 at *
  generalize checkF a = ea at *
  generalize checkF b = eb at *
  have KA := Aside0.mk ka
  have KB := Aside0.mk kb
  have HD := Aside0.mk hd
  have VD := Aside0.mk vd
  clear ka kb hd vd ra rb hwa hwb
  obtain ⟨A5a, c5a, A6a, c6a, A7a, c7a, A8a, c8a, e, -⟩ := hu.open_
  subst e
  obtain ⟨A5b, c5b, A6b, c6b, A7b, c7b, A8b, c8b, e, -⟩ := hv.open_
  subst e
  have B := Aside0.mk (below_alloc (below_alloc (below_alloc (Below.refl w.heap.size w) (.cells #[.int .i64 a.f0, .int .u64 a.f1, .int .u64 a.f2, .int .u64 a.f3, .int .u64 a.f4, .slice A5a a.f5.length c5a, .slice A6a a.f6.length c6a, .slice A7a a.f7.length c7a, .slice A8a a.f8.length c8a] 79)) (.cells #[.int .i64 b.f0, .int .u64 b.f1, .int .u64 b.f2, .int .u64 b.f3, .int .u64 b.f4, .slice A5b b.f5.length c5b, .slice A6b b.f6.length c6b, .slice A7b b.f7.length c7b, .slice A8b b.f8.length c8b] 79)) (.cells #[.int .i64 0, .int .i64 0] 67))
  have X := Aside0.mk (((Blk.new w #[.int .i64 a.f0, .int .u64 a.f1, .int .u64 a.f2, .int .u64 a.f3, .int .u64 a.f4, .slice A5a a.f5.length c5a, .slice A6a a.f6.length c6a, .slice A7a a.f7.length c7a, .slice A8a a.f8.length c8a] 79).alloc (.cells #[.int .i64 b.f0, .int .u64 b.f1, .int .u64 b.f2, .int .u64 b.f3, .int .u64 b.f4, .slice A5b b.f5.length c5b, .slice A6b b.f6.length c6b, .slice A7b b.f7.length c7b, .slice A8b b.f8.length c8b] 79)).alloc (.cells #[.int .i64 0, .int .i64 0] 67))
  have Y := Aside0.mk ((Blk.at1 (w := w) (.cells #[.int .i64 a.f0, .int .u64 a.f1, .int .u64 a.f2, .int .u64 a.f3, .int .u64 a.f4, .slice A5a a.f5.length c5a, .slice A6a a.f6.length c6a, .slice A7a a.f7.length c7a, .slice A8a a.f8.length c8a] 79) #[.int .i64 b.f0, .int .u64 b.f1, .int .u64 b.f2, .int .u64 b.f3, .int .u64 b.f4, .slice A5b b.f5.length c5b, .slice A6b b.f6.length c6b, .slice A7b b.f7.length c7b, .slice A8b b.f8.length c8b] 79).alloc (.cells #[.int .i64 0, .int .i64 0] 67))
  have Z := Aside0.mk (show Blk (((w.alloc (.cells #[.int .i64 a.f0, .int .u64 a.f1, .int .u64 a.f2, .int .u64 a.f3, .int .u64 a.f4, .slice A5a a.f5.length c5a, .slice A6a a.f6.length c6a, .slice A7a a.f7.length c7a, .slice A8a a.f8.length c8a] 79)).alloc (.cells #[.int .i64 b.f0, .int .u64 b.f1, .int .u64 b.f2, .int .u64 b.f3, .int .u64 b.f4, .slice A5b b.f5.length c5b, .slice A6b b.f6.length c6b, .slice A7b b.f7.length c7b, .slice A8b b.f8.length c8b] 79)).alloc (.cells #[.int .i64 0, .int .i64 0] 67)) (w.heap.size + 1 + 1) #[.int .i64 0, .int .i64 0] 67 by have := Blk.new ((w.alloc (.cells #[.int .i64 a.f0, .int .u64 a.f1, .int .u64 a.f2, .int .u64 a.f3, .int .u64 a.f4, .slice A5a a.f5.length c5a, .slice A6a a.f6.length c6a, .slice A7a a.f7.length c7a, .slice A8a a.f8.length c8a] 79)).alloc (.cells #[.int .i64 b.f0, .int .u64 b.f1, .int .u64 b.f2, .int .u64 b.f3, .int .u64 b.f4, .slice A5b b.f5.length c5b, .slice A6b b.f6.length c6b, .slice A7b b.f7.length c7b, .slice A8b b.f8.length c8b] 79)) #[.int .i64 0, .int .i64 0] 67; simpa using this)
  have hx := fun i => X.out.cell i
  have hy := fun i => Y.out.cell i
  have hz := fun i => Z.out.cell i
  have zz := fun i => blk_frozen Z.out i
  have HA := Aside0.mk (hu.below B.out)
  have HC := Aside0.mk (hv.below B.out)
  clear hu hv
  by_cases c1 : ea = 0
  rotate_left
  · rw [if_pos c1]
    have d1 : (ea != 0) = true := bne_iff_ne.2 c1
    clear c1
    go_enter Try.func62, Try.ntmps62
    go_wp2_with (first | (go_at_call 142; (with_reducible refine (KA.out _ _ HA.out).mono ?_); rintro e W1 ⟨v0, v1, rfl, h0, h1, hb⟩; replace B := Aside0.mk (below_then B.out B.out.size hb); replace HA := Aside0.mk (HA.out.below hb); replace HC := Aside0.mk (HC.out.below hb); replace X := Aside0.mk (X.out.below hb); replace hx := fun i => X.out.cell i; replace Y := Aside0.mk (Y.out.below hb); replace hy := fun i => Y.out.cell i; replace Z := Aside0.mk (Z.out.below hb); replace hz := fun i => Z.out.cell i; replace zz := fun i => blk_frozen Z.out i; have SA0 := Aside0.mk h0; have SA1 := Aside0.mk h1; have e0' := SA0.out; have e1' := SA1.out; obtain ⟨P0, q0, e0⟩ := e0'.slc; subst e0; obtain ⟨P1, q1, e1⟩ := e1'.slc; subst e1; have hsz1 := blk_lt Z.out; have hxa := fun i => (X.out.alloc (.cells #[.slice P0 x0.length q0, .slice P1 x1.length q1] 168)).cell i; have hya := fun i => (Y.out.alloc (.cells #[.slice P0 x0.length q0, .slice P1 x1.length q1] 168)).cell i; have hza := fun i => (Z.out.alloc (.cells #[.slice P0 x0.length q0, .slice P1 x1.length q1] 168)).cell i; clear h0 h1 hb; have zza := fun i => blk_frozen (Z.out.alloc (.cells #[.slice P0 x0.length q0, .slice P1 x1.length q1] 168)) i))
    refine bodyPost_ret (results_ct rfl _ _ (w.heap.size + 1 + 1) 67 #[_, _] (0, 0) _ rfl (Blk.alloc (show Blk _ _ _ _ from blk_put (blk_put Z.out 0 _ rfl) 1 _ rfl) _) Try.underlying67 rfl (by kernel_rfl)) rfl ?_
    exact ⟨rfl, below_alloc (belowS B.out.size B.out (by omega)) _⟩
  subst c1
  rw [if_neg (by simp)]
  by_cases c2 : eb = 0
  rotate_left
  · rw [if_pos c2]
    have d2 : (eb != 0) = true := bne_iff_ne.2 c2
    clear c2
    go_enter Try.func62, Try.ntmps62
    go_wp2_with (first | (go_at_call 142; (with_reducible refine (KA.out _ _ HA.out).mono ?_); rintro e W1 ⟨v0, v1, rfl, h0, h1, hb⟩; replace B := Aside0.mk (below_then B.out B.out.size hb); replace HA := Aside0.mk (HA.out.below hb); replace HC := Aside0.mk (HC.out.below hb); replace X := Aside0.mk (X.out.below hb); replace hx := fun i => X.out.cell i; replace Y := Aside0.mk (Y.out.below hb); replace hy := fun i => Y.out.cell i; replace Z := Aside0.mk (Z.out.below hb); replace hz := fun i => Z.out.cell i; replace zz := fun i => blk_frozen Z.out i; have SA0 := Aside0.mk h0; have SA1 := Aside0.mk h1; have e0' := SA0.out; have e1' := SA1.out; obtain ⟨P0, q0, e0⟩ := e0'.slc; subst e0; obtain ⟨P1, q1, e1⟩ := e1'.slc; subst e1; have hsz1 := blk_lt Z.out; have hxa := fun i => (X.out.alloc (.cells #[.slice P0 x0.length q0, .slice P1 x1.length q1] 168)).cell i; have hya := fun i => (Y.out.alloc (.cells #[.slice P0 x0.length q0, .slice P1 x1.length q1] 168)).cell i; have hza := fun i => (Z.out.alloc (.cells #[.slice P0 x0.length q0, .slice P1 x1.length q1] 168)).cell i; clear h0 h1 hb))
    (try clear hxa hya hza)
    have hal := below_alloc (Below.refl W1.heap.size W1) (.cells #[.slice P0 x0.length q0, .slice P1 x1.length q1] 168)
    replace B := Aside0.mk (below_then B.out B.out.size hal)
    replace HA := Aside0.mk (HA.out.below hal)
    replace HC := Aside0.mk (HC.out.below hal)
    replace SA0 := Aside0.mk (SA0.out.below hal)
    replace SA1 := Aside0.mk (SA1.out.below hal)
    replace X := Aside0.mk (X.out.alloc (.cells #[.slice P0 x0.length q0, .slice P1 x1.length q1] 168)); replace hx := fun i => X.out.cell i
    replace Y := Aside0.mk (Y.out.alloc (.cells #[.slice P0 x0.length q0, .slice P1 x1.length q1] 168)); replace hy := fun i => Y.out.cell i
    replace Z := Aside0.mk (Z.out.alloc (.cells #[.slice P0 x0.length q0, .slice P1 x1.length q1] 168)); replace hz := fun i => Z.out.cell i
    have U := Aside0.mk (Blk.new W1 #[.slice P0 x0.length q0, .slice P1 x1.length q1] 168); have hu := fun i => U.out.cell i; clear hal
    go_wp2_with (first | (go_at_call 142; (with_reducible refine (KB.out _ _ HC.out).mono ?_); rintro e W2 ⟨v2, v3, rfl, h0, h1, hb⟩; replace B := Aside0.mk (below_then B.out B.out.size hb); replace HA := Aside0.mk (HA.out.below hb); replace HC := Aside0.mk (HC.out.below hb); replace SA0 := Aside0.mk (SA0.out.below hb); replace SA1 := Aside0.mk (SA1.out.below hb); replace X := Aside0.mk (X.out.below hb); replace hx := fun i => X.out.cell i; replace Y := Aside0.mk (Y.out.below hb); replace hy := fun i => Y.out.cell i; replace Z := Aside0.mk (Z.out.below hb); replace hz := fun i => Z.out.cell i; replace zz := fun i => blk_frozen Z.out i; replace U := Aside0.mk (U.out.below hb); replace hu := fun i => U.out.cell i; have SB0 := Aside0.mk h0; have SB1 := Aside0.mk h1; have e0' := SB0.out; have e1' := SB1.out; obtain ⟨P2, q2, e0⟩ := e0'.slc; subst e0; obtain ⟨P3, q3, e1⟩ := e1'.slc; subst e1; have hsz2 := blk_lt Z.out; have hxa := fun i => (X.out.alloc (.cells #[.slice P2 y0.length q2, .slice P3 y1.length q3] 168)).cell i; have hya := fun i => (Y.out.alloc (.cells #[.slice P2 y0.length q2, .slice P3 y1.length q3] 168)).cell i; have hza := fun i => (Z.out.alloc (.cells #[.slice P2 y0.length q2, .slice P3 y1.length q3] 168)).cell i; have hua := fun i => (U.out.alloc (.cells #[.slice P2 y0.length q2, .slice P3 y1.length q3] 168)).cell i; clear h0 h1 hb; have zza := fun i => blk_frozen (Z.out.alloc (.cells #[.slice P2 y0.length q2, .slice P3 y1.length q3] 168)) i))
    refine bodyPost_ret (results_ct rfl _ _ (w.heap.size + 1 + 1) 67 #[_, _] (0, 0) _ rfl (Blk.alloc (show Blk _ _ _ _ from blk_put (blk_put Z.out 0 _ rfl) 1 _ rfl) _) Try.underlying67 rfl (by kernel_rfl)) rfl ?_
    exact ⟨rfl, below_alloc (belowS B.out.size B.out (by omega)) _⟩
  subst c2
  rw [if_neg (by simp)]
  go_enter Try.func62, Try.ntmps62
  go_wp2_with (first | (go_at_call 142; (with_reducible refine (KA.out _ _ HA.out).mono ?_); rintro e W1 ⟨v0, v1, rfl, h0, h1, hb⟩; replace B := Aside0.mk (below_then B.out B.out.size hb); replace HA := Aside0.mk (HA.out.below hb); replace HC := Aside0.mk (HC.out.below hb); replace X := Aside0.mk (X.out.below hb); replace hx := fun i => X.out.cell i; replace Y := Aside0.mk (Y.out.below hb); replace hy := fun i => Y.out.cell i; replace Z := Aside0.mk (Z.out.below hb); replace hz := fun i => Z.out.cell i; replace zz := fun i => blk_frozen Z.out i; have SA0 := Aside0.mk h0; have SA1 := Aside0.mk h1; have e0' := SA0.out; have e1' := SA1.out; obtain ⟨P0, q0, e0⟩ := e0'.slc; subst e0; obtain ⟨P1, q1, e1⟩ := e1'.slc; subst e1; have hsz1 := blk_lt Z.out; have hxa := fun i => (X.out.alloc (.cells #[.slice P0 x0.length q0, .slice P1 x1.length q1] 168)).cell i; have hya := fun i => (Y.out.alloc (.cells #[.slice P0 x0.length q0, .slice P1 x1.length q1] 168)).cell i; have hza := fun i => (Z.out.alloc (.cells #[.slice P0 x0.length q0, .slice P1 x1.length q1] 168)).cell i; clear h0 h1 hb))
  (try clear hxa hya hza)
  have hal := below_alloc (Below.refl W1.heap.size W1) (.cells #[.slice P0 x0.length q0, .slice P1 x1.length q1] 168)
  replace B := Aside0.mk (below_then B.out B.out.size hal)
  replace HA := Aside0.mk (HA.out.below hal)
  replace HC := Aside0.mk (HC.out.below hal)
  replace SA0 := Aside0.mk (SA0.out.below hal)
  replace SA1 := Aside0.mk (SA1.out.below hal)
  replace X := Aside0.mk (X.out.alloc (.cells #[.slice P0 x0.length q0, .slice P1 x1.length q1] 168)); replace hx := fun i => X.out.cell i
  replace Y := Aside0.mk (Y.out.alloc (.cells #[.slice P0 x0.length q0, .slice P1 x1.length q1] 168)); replace hy := fun i => Y.out.cell i
  replace Z := Aside0.mk (Z.out.alloc (.cells #[.slice P0 x0.length q0, .slice P1 x1.length q1] 168)); replace hz := fun i => Z.out.cell i
  have U := Aside0.mk (Blk.new W1 #[.slice P0 x0.length q0, .slice P1 x1.length q1] 168); have hu := fun i => U.out.cell i; clear hal
  go_wp2_with (first | (go_at_call 142; (with_reducible refine (KB.out _ _ HC.out).mono ?_); rintro e W2 ⟨v2, v3, rfl, h0, h1, hb⟩; replace B := Aside0.mk (below_then B.out B.out.size hb); replace HA := Aside0.mk (HA.out.below hb); replace HC := Aside0.mk (HC.out.below hb); replace SA0 := Aside0.mk (SA0.out.below hb); replace SA1 := Aside0.mk (SA1.out.below hb); replace X := Aside0.mk (X.out.below hb); replace hx := fun i => X.out.cell i; replace Y := Aside0.mk (Y.out.below hb); replace hy := fun i => Y.out.cell i; replace Z := Aside0.mk (Z.out.below hb); replace hz := fun i => Z.out.cell i; replace zz := fun i => blk_frozen Z.out i; replace U := Aside0.mk (U.out.below hb); replace hu := fun i => U.out.cell i; have SB0 := Aside0.mk h0; have SB1 := Aside0.mk h1; have e0' := SB0.out; have e1' := SB1.out; obtain ⟨P2, q2, e0⟩ := e0'.slc; subst e0; obtain ⟨P3, q3, e1⟩ := e1'.slc; subst e1; have hsz2 := blk_lt Z.out; have hxa := fun i => (X.out.alloc (.cells #[.slice P2 y0.length q2, .slice P3 y1.length q3] 168)).cell i; have hya := fun i => (Y.out.alloc (.cells #[.slice P2 y0.length q2, .slice P3 y1.length q3] 168)).cell i; have hza := fun i => (Z.out.alloc (.cells #[.slice P2 y0.length q2, .slice P3 y1.length q3] 168)).cell i; have hua := fun i => (U.out.alloc (.cells #[.slice P2 y0.length q2, .slice P3 y1.length q3] 168)).cell i; clear h0 h1 hb))
  (try clear hxa hya hza hua)
  have hal := below_alloc (Below.refl W2.heap.size W2) (.cells #[.slice P2 y0.length q2, .slice P3 y1.length q3] 168)
  replace B := Aside0.mk (below_then B.out B.out.size hal)
  replace HA := Aside0.mk (HA.out.below hal)
  replace HC := Aside0.mk (HC.out.below hal)
  replace SA0 := Aside0.mk (SA0.out.below hal)
  replace SA1 := Aside0.mk (SA1.out.below hal)
  replace SB0 := Aside0.mk (SB0.out.below hal)
  replace SB1 := Aside0.mk (SB1.out.below hal)
  replace X := Aside0.mk (X.out.alloc (.cells #[.slice P2 y0.length q2, .slice P3 y1.length q3] 168)); replace hx := fun i => X.out.cell i
  replace Y := Aside0.mk (Y.out.alloc (.cells #[.slice P2 y0.length q2, .slice P3 y1.length q3] 168)); replace hy := fun i => Y.out.cell i
  replace Z := Aside0.mk (Z.out.alloc (.cells #[.slice P2 y0.length q2, .slice P3 y1.length q3] 168)); replace hz := fun i => Z.out.cell i
  replace U := Aside0.mk (U.out.alloc (.cells #[.slice P2 y0.length q2, .slice P3 y1.length q3] 168)); replace hu := fun i => U.out.cell i
  have V := Aside0.mk (Blk.new W2 #[.slice P2 y0.length q2, .slice P3 y1.length q3] 168); have hv := fun i => V.out.cell i; clear hal
  replace HA := Aside0.mk (HA.out.below (below_drew (Below.refl _ _)))
  replace HC := Aside0.mk (HC.out.below (below_drew (Below.refl _ _)))
  replace SA0 := Aside0.mk (SA0.out.below (below_drew (Below.refl _ _)))
  replace SA1 := Aside0.mk (SA1.out.below (below_drew (Below.refl _ _)))
  replace SB0 := Aside0.mk (SB0.out.below (below_drew (Below.refl _ _)))
  replace SB1 := Aside0.mk (SB1.out.below (below_drew (Below.refl _ _)))
  replace X := Aside0.mk (X.out.below (below_drew (Below.refl _ _)))
  replace Y := Aside0.mk (Y.out.below (below_drew (Below.refl _ _)))
  replace Z := Aside0.mk (Z.out.below (below_drew (Below.refl _ _)))
  replace U := Aside0.mk (U.out.below (below_drew (Below.refl _ _)))
  replace V := Aside0.mk (V.out.below (below_drew (Below.refl _ _)))
  replace B := Aside0.mk (below_drew B.out)
  go_region_held3 (fun W => (∀ i, W.cell? ⟨w.heap.size, i, none⟩ = (#[.int .i64 a.f0, .int .u64 a.f1, .int .u64 a.f2, .int .u64 a.f3, .int .u64 a.f4, .slice A5a a.f5.length c5a, .slice A6a a.f6.length c6a, .slice A7a a.f7.length c7a, .slice A8a a.f8.length c8a] : Array Value)[i]?) ∧ (∀ i, W.cell? ⟨w.heap.size + 1, i, none⟩ = (#[.int .i64 b.f0, .int .u64 b.f1, .int .u64 b.f2, .int .u64 b.f3, .int .u64 b.f4, .slice A5b b.f5.length c5b, .slice A6b b.f6.length c6b, .slice A7b b.f7.length c7b, .slice A8b b.f8.length c8b] : Array Value)[i]?) ∧ (∀ i, W.cell? ⟨W1.heap.size, i, none⟩ = (#[.slice P0 x0.length q0, .slice P1 x1.length q1] : Array Value)[i]?) ∧ (∀ i, W.cell? ⟨W2.heap.size, i, none⟩ = (#[.slice P2 y0.length q2, .slice P3 y1.length q3] : Array Value)[i]?)) (first | exact ⟨fun i => X.out.cell i, fun i => Y.out.cell i, fun i => U.out.cell i, fun i => V.out.cell i⟩ | exact ⟨fun i => blk_cell (blk_far X.out (by show w.heap.size ≠ w.heap.size + 1 + 1; omega) _) i, fun i => blk_cell (blk_far Y.out (by show w.heap.size + 1 ≠ w.heap.size + 1 + 1; omega) _) i, fun i => blk_cell (blk_far U.out (by show W1.heap.size ≠ w.heap.size + 1 + 1; omega) _) i, fun i => blk_cell (blk_far V.out (by show W2.heap.size ≠ w.heap.size + 1 + 1; omega) _) i⟩ | exact ⟨fun i => blk_cell (blk_far (blk_far X.out (by show w.heap.size ≠ w.heap.size + 1 + 1; omega) _) (by show w.heap.size ≠ w.heap.size + 1 + 1; omega) _) i, fun i => blk_cell (blk_far (blk_far Y.out (by show w.heap.size + 1 ≠ w.heap.size + 1 + 1; omega) _) (by show w.heap.size + 1 ≠ w.heap.size + 1 + 1; omega) _) i, fun i => blk_cell (blk_far (blk_far U.out (by show W1.heap.size ≠ w.heap.size + 1 + 1; omega) _) (by show W1.heap.size ≠ w.heap.size + 1 + 1; omega) _) i, fun i => blk_cell (blk_far (blk_far V.out (by show W2.heap.size ≠ w.heap.size + 1 + 1; omega) _) (by show W2.heap.size ≠ w.heap.size + 1 + 1; omega) _) i⟩) (first | (go_at_call 137; (with_reducible refine (HD.out _).mono ?_); rintro e W3 ⟨rfl, hb⟩; replace B := Aside0.mk (below_then B.out B.out.size hb); replace HA := Aside0.mk (HA.out.below hb); replace HC := Aside0.mk (HC.out.below hb); replace SA0 := Aside0.mk (SA0.out.below hb); replace SA1 := Aside0.mk (SA1.out.below hb); replace SB0 := Aside0.mk (SB0.out.below hb); replace SB1 := Aside0.mk (SB1.out.below hb); replace X := Aside0.mk (X.out.below hb); replace hx := fun i => X.out.cell i; replace Y := Aside0.mk (Y.out.below hb); replace hy := fun i => Y.out.cell i; replace Z := Aside0.mk (Z.out.below hb); replace hz := fun i => Z.out.cell i; replace zz := fun i => blk_frozen Z.out i; replace U := Aside0.mk (U.out.below hb); replace hu := fun i => U.out.cell i; replace V := Aside0.mk (V.out.below hb); replace hv := fun i => V.out.cell i; clear  hb) | (go_at_call 143; (with_reducible refine (VD.out _ _ _ _ _ SA0.out SA1.out SB0.out SB1.out).mono ?_); rintro e W4 ⟨rfl, hb⟩; replace B := Aside0.mk (below_then B.out B.out.size hb); replace HA := Aside0.mk (HA.out.below hb); replace HC := Aside0.mk (HC.out.below hb); replace SA0 := Aside0.mk (SA0.out.below hb); replace SA1 := Aside0.mk (SA1.out.below hb); replace SB0 := Aside0.mk (SB0.out.below hb); replace SB1 := Aside0.mk (SB1.out.below hb); replace X := Aside0.mk (X.out.below hb); replace hx := fun i => X.out.cell i; replace Y := Aside0.mk (Y.out.below hb); replace hy := fun i => Y.out.cell i; replace Z := Aside0.mk (Z.out.below hb); replace hz := fun i => Z.out.cell i; replace zz := fun i => blk_frozen Z.out i; replace U := Aside0.mk (U.out.below hb); replace hu := fun i => U.out.cell i; replace V := Aside0.mk (V.out.below hb); replace hv := fun i => V.out.cell i; clear  hb))
  all_goals go_wp2
  all_goals (refine bodyPost_ret (results_ct rfl _ _ (w.heap.size + 1 + 1) 67 #[_, _] (0, 0) _ rfl (blk_put (blk_put (Z.out) 0 _ rfl) 1 _ rfl) Try.underlying67 rfl (by kernel_rfl)) rfl ?_; exact ⟨rfl, belowS B.out.size B.out (by omega)⟩)
end Go.Proofs.Ytacgeafjilipdaa.P
namespace Go.Proofs.Ytacgeafjilipdaa.P
open Go.RowKit Go.Shelf Go.Proofs.YtacgeafjilipdaaW.PrintWords Go.Proofs.YtacgeafjilipdaaW.PrintLast Go.Proofs.YtacgeafjilipdaaW.PrintMore
set_option linter.unusedVariables false
set_option linter.unusedSimpArgs false
def nameS (a : Int) : ByteArray := if a = 0 then ⟨#[110, 111, 110, 101]⟩ else if a = 1 then ⟨#[115, 99, 104, 101, 109, 97]⟩ else if a = 2 then ⟨#[116, 104, 114, 101, 115, 104, 111, 108, 100]⟩ else if a = 3 then ⟨#[99, 111, 117, 110, 116]⟩ else if a = 4 then ⟨#[122, 101, 114, 111, 32, 99, 111, 117, 110, 116]⟩ else if a = 5 then ⟨#[112, 111, 115, 105, 116, 105, 118, 101]⟩ else if a = 6 then ⟨#[110, 101, 103, 97, 116, 105, 118, 101]⟩ else ⟨#[]⟩
theorem nameS_no {a : Int} (h : ¬ (0 ≤ a ∧ a ≤ 6)) : nameS a = ⟨#[]⟩ := by
  unfold nameS
  rw [if_neg (by omega), if_neg (by omega), if_neg (by omega), if_neg (by omega), if_neg (by omega), if_neg (by omega), if_neg (by omega)]
set_option maxHeartbeats 4000000 in
set_option maxRecDepth 100000 in
theorem name_c (a : Int) (w : World) : Calls Try.prog 66 #[.int .i64 a] w fun e w' => e = .returned (.string (nameS a)) ∧ Below w.heap.size w w' := by
  have hu := Try.underlying174
  by_cases h : 0 ≤ a ∧ a ≤ 6
  · have X := Blk.new w #[.string ⟨#[110, 111, 110, 101]⟩, .string ⟨#[115, 99, 104, 101, 109, 97]⟩, .string ⟨#[116, 104, 114, 101, 115, 104, 111, 108, 100]⟩, .string ⟨#[99, 111, 117, 110, 116]⟩, .string ⟨#[122, 101, 114, 111, 32, 99, 111, 117, 110, 116]⟩, .string ⟨#[112, 111, 115, 105, 116, 105, 118, 101]⟩, .string ⟨#[110, 101, 103, 97, 116, 105, 118, 101]⟩] 174
    have hx := fun i => X.cell i
    obtain h | h | h | h | h | h | h : a = 0 ∨ a = 1 ∨ a = 2 ∨ a = 3 ∨ a = 4 ∨ a = 5 ∨ a = 6 := by omega
    all_goals subst h
    all_goals go_enter Try.func66, Try.ntmps66
    all_goals go_wp2
    all_goals go_ret
    all_goals exact ⟨rfl, below_alloc (Below.refl _ _) _⟩
  · rw [nameS_no h]
    by_cases h1 : a < 0
    · have d1 : decide (a < 0) = true := decide_eq_true h1
      clear h h1
      go_enter Try.func66, Try.ntmps66
      go_wp2
      go_ret
      exact ⟨rfl, below_alloc (Below.refl _ _) _⟩
    · have d1 : decide (a < 0) = false := decide_eq_false h1
      have d2 : decide (7 ≤ a) = true := decide_eq_true (by omega)
      clear h h1
      go_enter Try.func66, Try.ntmps66
      go_wp2
      go_ret
      exact ⟨rfl, below_alloc (Below.refl _ _) _⟩
end Go.Proofs.Ytacgeafjilipdaa.P
namespace Go.Proofs.Ytacgeafjilipdaa.P
open Go.RowKit Go.Shelf Go.Proofs.YtacgeafjilipdaaW.PrintWords Go.Proofs.YtacgeafjilipdaaW.PrintLast Go.Proofs.YtacgeafjilipdaaW.PrintMore
set_option linter.unusedVariables false
set_option linter.unusedSimpArgs false
theorem reps_one_span (w : World) (a b : Int) : Reps (k144.K w) 2 [(⟨a, b⟩ : S144)] [.int .i64 a, .int .i64 b] := by
  refine ⟨rfl, fun j p hj => ?_⟩
  cases j with
  | zero => injection hj with hj; subst hj; exact k144_mk w _
  | succ j => simp at hj
end Go.Proofs.Ytacgeafjilipdaa.P
namespace Go.Proofs.Ytacgeafjilipdaa.P
open Go.RowKit Go.Shelf Go.Proofs.YtacgeafjilipdaaW.PrintWords Go.Proofs.YtacgeafjilipdaaW.PrintLast Go.Proofs.YtacgeafjilipdaaW.PrintMore
set_option linter.unusedVariables false
set_option linter.unusedSimpArgs false
def awA : Hi := ⟨0, 0, 0, 6, 0, [⟨3, 2⟩], [], [5, -4], []⟩
def awB : Hi := ⟨0, 0, 0, 9, 0, [⟨3, 1⟩], [], [9], []⟩
def awF : Fh := ⟨1, 0, 0, 0, 0, [], [], [], []⟩
theorem awA_wf : wfH awA := by unfold wfH; decide
theorem awB_wf : wfH awB := by unfold wfH; decide
theorem awF_wf : wfF awF := by unfold wfF; decide
theorem awE_wf : wfF emptyF := by unfold wfF; decide
theorem aw11_1 : intsR awA awB = ((5, 4), 0) := by kernel_rfl
theorem aw11_2 : intsR awB awA = ((3, 0), 0) := by kernel_rfl
theorem aw11_3 : floatsR awF emptyF = ((1, 0), 0) := by kernel_rfl
theorem aw11_4 : sameR awA awA = true := by kernel_rfl
theorem hp_at {w : World} {k : Nat} (h : w.heap.size = k) (o : Obj) : (w.alloc o).heap[k]? = some o := h ▸ heap_alloc_new w o
theorem hp_old {w : World} {k : Nat} {o' : Obj} (o : Obj) (h : w.heap[k]? = some o') : (w.alloc o).heap[k]? = some o' := by
  have hk : k < w.heap.size := by
    rcases Nat.lt_or_ge k w.heap.size with h1 | h1
    · exact h1
    · rw [Array.getElem?_eq_none h1] at h; cases h
  show (w.heap.push o)[k]? = _
  rw [Array.getElem?_push, if_neg (by omega)]; exact h
theorem aw11_5 : nameS 5 = ⟨#[112, 111, 115, 105, 116, 105, 118, 101]⟩ := rfl
theorem lit6 (w : World) (o1 o2 o3 o4 o5 o6 : Obj) :
    let W := ((((((w.alloc o1).alloc o2).alloc o3).alloc o4).alloc o5).alloc o6)
    W.heap[w.heap.size]? = some o1 ∧ W.heap[w.heap.size + 1]? = some o2 ∧ W.heap[w.heap.size + 1 + 1]? = some o3 ∧ W.heap[w.heap.size + 1 + 1 + 1]? = some o4 ∧ W.heap[w.heap.size + 1 + 1 + 1 + 1]? = some o5 ∧ W.heap[w.heap.size + 1 + 1 + 1 + 1 + 1]? = some o6 ∧ Below w.heap.size w W := by
  exact ⟨(hp_old o6 (hp_old o5 (hp_old o4 (hp_old o3 (hp_old o2 (hp_at (w := w) (by simp) o1)))))), (hp_old o6 (hp_old o5 (hp_old o4 (hp_old o3 (hp_at (w := (w.alloc o1)) (by simp) o2))))), (hp_old o6 (hp_old o5 (hp_old o4 (hp_at (w := ((w.alloc o1).alloc o2)) (by simp) o3)))), (hp_old o6 (hp_old o5 (hp_at (w := (((w.alloc o1).alloc o2).alloc o3)) (by simp) o4))), (hp_old o6 (hp_at (w := ((((w.alloc o1).alloc o2).alloc o3).alloc o4)) (by simp) o5)), (hp_at (w := (((((w.alloc o1).alloc o2).alloc o3).alloc o4).alloc o5)) (by simp) o6), below_alloc (below_alloc (below_alloc (below_alloc (below_alloc (below_alloc (Below.refl _ _) _) _) _) _) _) _⟩
set_option maxHeartbeats 16000000 in
set_option maxRecDepth 100000 in
theorem awake11_c (w : World) : Calls Try.prog 55 #[] w fun e w' => e = .returned (.bool true) ∧ Below w.heap.size w w' := by
  have hu1 := Try.underlying144
  have hu2 := Try.underlying64
  have hu3 := Try.underlying67
  have hu4 := Try.underlying79
  have k1 := resetI_c awA awB awA_wf awB_wf
  have k2 := resetI_c awB awA awB_wf awA_wf
  have k4 := same11_c awA awA awA_wf awA_wf
  have k3 := fun w => resetF_c awF emptyF awF_wf awE_wf w (.agg #[.int .i64 1, .int .u64 0, .int .u64 0, .int .u64 0, .int .u64 0, .slice none 0 0, .slice none 0 0, .slice none 0 0, .slice none 0 0]) (.agg #[.int .i64 0, .int .u64 0, .int .u64 0, .int .u64 0, .int .u64 0, .slice none 0 0, .slice none 0 0, .slice none 0 0, .slice none 0 0]) (GI.mk (h := awF) (SI.nil _ _) (SI.nil _ _) (SI.nil _ _) (SI.nil _ _)) (GI.mk (h := emptyF) (SI.nil _ _) (SI.nil _ _) (SI.nil _ _) (SI.nil _ _))
  rw [aw11_1] at k1
  rw [aw11_2] at k2
  rw [aw11_3] at k3
  rw [aw11_4] at k4
  have k5 := name_c 5
  rw [aw11_5] at k5
  have K5 := Aside0.mk k5
  clear k5
  have K1 := Aside0.mk k1
  have K2 := Aside0.mk k2
  have K3 := Aside0.mk k3
  have K4 := Aside0.mk k4
  clear k1 k2 k3 k4
  obtain ⟨b1, b2, b3, b4, b5, b6, bb⟩ := lit6 w (.cells #[.int .i64 3, .int .i64 2] 144) (.cells #[.int .i64 5, .int .i64 (-4)] 2) (.cells #[.int .i64 0, .int .u64 0, .int .u64 0, .int .u64 6, .int .u64 0, .slice (some ⟨w.heap.size, 0, none⟩) 1 1, .slice none 0 0, .slice (some ⟨w.heap.size + 1, 0, none⟩) 2 2, .slice none 0 0] 64) (.cells #[.int .i64 3, .int .i64 1] 144) (.cells #[.int .i64 9] 2) (.cells #[.int .i64 0, .int .u64 0, .int .u64 0, .int .u64 9, .int .u64 0, .slice (some ⟨w.heap.size + 1 + 1 + 1, 0, none⟩) 1 1, .slice none 0 0, .slice (some ⟨w.heap.size + 1 + 1 + 1 + 1, 0, none⟩) 1 1, .slice none 0 0] 64)
  have B := Aside0.mk bb
  have X := Aside0.mk (show Blk ((((((w.alloc (.cells #[.int .i64 3, .int .i64 2] 144)).alloc (.cells #[.int .i64 5, .int .i64 (-4)] 2)).alloc (.cells #[.int .i64 0, .int .u64 0, .int .u64 0, .int .u64 6, .int .u64 0, .slice (some ⟨w.heap.size, 0, none⟩) 1 1, .slice none 0 0, .slice (some ⟨w.heap.size + 1, 0, none⟩) 2 2, .slice none 0 0] 64)).alloc (.cells #[.int .i64 3, .int .i64 1] 144)).alloc (.cells #[.int .i64 9] 2)).alloc (.cells #[.int .i64 0, .int .u64 0, .int .u64 0, .int .u64 9, .int .u64 0, .slice (some ⟨w.heap.size + 1 + 1 + 1, 0, none⟩) 1 1, .slice none 0 0, .slice (some ⟨w.heap.size + 1 + 1 + 1 + 1, 0, none⟩) 1 1, .slice none 0 0] 64)) (w.heap.size + 1 + 1) #[.int .i64 0, .int .u64 0, .int .u64 0, .int .u64 6, .int .u64 0, .slice (some ⟨w.heap.size, 0, none⟩) 1 1, .slice none 0 0, .slice (some ⟨w.heap.size + 1, 0, none⟩) 2 2, .slice none 0 0] 64 from b3)
  have Y := Aside0.mk (show Blk ((((((w.alloc (.cells #[.int .i64 3, .int .i64 2] 144)).alloc (.cells #[.int .i64 5, .int .i64 (-4)] 2)).alloc (.cells #[.int .i64 0, .int .u64 0, .int .u64 0, .int .u64 6, .int .u64 0, .slice (some ⟨w.heap.size, 0, none⟩) 1 1, .slice none 0 0, .slice (some ⟨w.heap.size + 1, 0, none⟩) 2 2, .slice none 0 0] 64)).alloc (.cells #[.int .i64 3, .int .i64 1] 144)).alloc (.cells #[.int .i64 9] 2)).alloc (.cells #[.int .i64 0, .int .u64 0, .int .u64 0, .int .u64 9, .int .u64 0, .slice (some ⟨w.heap.size + 1 + 1 + 1, 0, none⟩) 1 1, .slice none 0 0, .slice (some ⟨w.heap.size + 1 + 1 + 1 + 1, 0, none⟩) 1 1, .slice none 0 0] 64)) (w.heap.size + 1 + 1 + 1 + 1 + 1) #[.int .i64 0, .int .u64 0, .int .u64 0, .int .u64 9, .int .u64 0, .slice (some ⟨w.heap.size + 1 + 1 + 1, 0, none⟩) 1 1, .slice none 0 0, .slice (some ⟨w.heap.size + 1 + 1 + 1 + 1, 0, none⟩) 1 1, .slice none 0 0] 64 from b6)
  have hx := fun i => X.out.cell i
  have hy := fun i => Y.out.cell i
  have HA := Aside0.mk (show HI ((((((w.alloc (.cells #[.int .i64 3, .int .i64 2] 144)).alloc (.cells #[.int .i64 5, .int .i64 (-4)] 2)).alloc (.cells #[.int .i64 0, .int .u64 0, .int .u64 0, .int .u64 6, .int .u64 0, .slice (some ⟨w.heap.size, 0, none⟩) 1 1, .slice none 0 0, .slice (some ⟨w.heap.size + 1, 0, none⟩) 2 2, .slice none 0 0] 64)).alloc (.cells #[.int .i64 3, .int .i64 1] 144)).alloc (.cells #[.int .i64 9] 2)).alloc (.cells #[.int .i64 0, .int .u64 0, .int .u64 0, .int .u64 9, .int .u64 0, .slice (some ⟨w.heap.size + 1 + 1 + 1, 0, none⟩) 1 1, .slice none 0 0, .slice (some ⟨w.heap.size + 1 + 1 + 1 + 1, 0, none⟩) 1 1, .slice none 0 0] 64)) (.agg #[.int .i64 0, .int .u64 0, .int .u64 0, .int .u64 6, .int .u64 0, .slice (some ⟨w.heap.size, 0, none⟩) 1 1, .slice none 0 0, .slice (some ⟨w.heap.size + 1, 0, none⟩) 2 2, .slice none 0 0]) awA from HI.mk (h := awA) (.of (C_of_blk [(⟨3, 2⟩ : S144)] b1 (reps_one_span _ 3 2) (by decide)) (by decide)) (SI.nil _ _) (.of (C_of_blk [5, -4] b2 (reps_nums _ .i64 [5, -4]) (by decide)) (by decide)) (SI.nil _ _))
  have HC := Aside0.mk (show HI ((((((w.alloc (.cells #[.int .i64 3, .int .i64 2] 144)).alloc (.cells #[.int .i64 5, .int .i64 (-4)] 2)).alloc (.cells #[.int .i64 0, .int .u64 0, .int .u64 0, .int .u64 6, .int .u64 0, .slice (some ⟨w.heap.size, 0, none⟩) 1 1, .slice none 0 0, .slice (some ⟨w.heap.size + 1, 0, none⟩) 2 2, .slice none 0 0] 64)).alloc (.cells #[.int .i64 3, .int .i64 1] 144)).alloc (.cells #[.int .i64 9] 2)).alloc (.cells #[.int .i64 0, .int .u64 0, .int .u64 0, .int .u64 9, .int .u64 0, .slice (some ⟨w.heap.size + 1 + 1 + 1, 0, none⟩) 1 1, .slice none 0 0, .slice (some ⟨w.heap.size + 1 + 1 + 1 + 1, 0, none⟩) 1 1, .slice none 0 0] 64)) (.agg #[.int .i64 0, .int .u64 0, .int .u64 0, .int .u64 9, .int .u64 0, .slice (some ⟨w.heap.size + 1 + 1 + 1, 0, none⟩) 1 1, .slice none 0 0, .slice (some ⟨w.heap.size + 1 + 1 + 1 + 1, 0, none⟩) 1 1, .slice none 0 0]) awB from HI.mk (h := awB) (.of (C_of_blk [(⟨3, 1⟩ : S144)] b4 (reps_one_span _ 3 1) (by decide)) (by decide)) (SI.nil _ _) (.of (C_of_blk [9] b5 (reps_nums _ .i64 [9]) (by decide)) (by decide)) (SI.nil _ _))
  clear b1 b2 b3 b4 b5 b6 bb
  go_enter Try.func55, Try.ntmps55
  go_wp2_with (first | (go_at_call 56; (with_reducible refine (K1.out _ _ _ HA.out HC.out).mono ?_); rintro e W1 ⟨rfl, hb⟩; replace B := Aside0.mk (below_then B.out B.out.size hb); replace HA := Aside0.mk (HA.out.below hb); replace HC := Aside0.mk (HC.out.below hb); replace X := Aside0.mk (X.out.below hb); replace hx := fun i => X.out.cell i; replace Y := Aside0.mk (Y.out.below hb); replace hy := fun i => Y.out.cell i; have hxa := fun i => (X.out.alloc (.cells #[.int .i64 5, .int .i64 4] 67)).cell i; have hya := fun i => (Y.out.alloc (.cells #[.int .i64 5, .int .i64 4] 67)).cell i; clear  hb))
  (try clear hxa hya)
  have hal := below_alloc (Below.refl W1.heap.size W1) (.cells #[.int .i64 5, .int .i64 4] 67)
  replace B := Aside0.mk (below_then B.out B.out.size hal)
  replace HA := Aside0.mk (HA.out.below hal)
  replace HC := Aside0.mk (HC.out.below hal)
  replace X := Aside0.mk (X.out.alloc (.cells #[.int .i64 5, .int .i64 4] 67)); replace hx := fun i => X.out.cell i
  replace Y := Aside0.mk (Y.out.alloc (.cells #[.int .i64 5, .int .i64 4] 67)); replace hy := fun i => Y.out.cell i
  have U := Aside0.mk (Blk.new W1 #[.int .i64 5, .int .i64 4] 67); have hu := fun i => U.out.cell i; clear hal
  go_wp2_with (first | (go_at_call 56; (with_reducible refine (K2.out _ _ _ HC.out HA.out).mono ?_); rintro e W2 ⟨rfl, hb⟩; replace B := Aside0.mk (below_then B.out B.out.size hb); replace HA := Aside0.mk (HA.out.below hb); replace HC := Aside0.mk (HC.out.below hb); replace X := Aside0.mk (X.out.below hb); replace hx := fun i => X.out.cell i; replace Y := Aside0.mk (Y.out.below hb); replace hy := fun i => Y.out.cell i; replace U := Aside0.mk (U.out.below hb); replace hu := fun i => U.out.cell i; have hxa := fun i => (X.out.alloc (.cells #[.int .i64 3, .int .i64 0] 67)).cell i; have hya := fun i => (Y.out.alloc (.cells #[.int .i64 3, .int .i64 0] 67)).cell i; have hua := fun i => (U.out.alloc (.cells #[.int .i64 3, .int .i64 0] 67)).cell i; clear  hb))
  (try clear hxa hya hua)
  have hal := below_alloc (Below.refl W2.heap.size W2) (.cells #[.int .i64 3, .int .i64 0] 67)
  replace B := Aside0.mk (below_then B.out B.out.size hal)
  replace HA := Aside0.mk (HA.out.below hal)
  replace HC := Aside0.mk (HC.out.below hal)
  replace X := Aside0.mk (X.out.alloc (.cells #[.int .i64 3, .int .i64 0] 67)); replace hx := fun i => X.out.cell i
  replace Y := Aside0.mk (Y.out.alloc (.cells #[.int .i64 3, .int .i64 0] 67)); replace hy := fun i => Y.out.cell i
  replace U := Aside0.mk (U.out.alloc (.cells #[.int .i64 3, .int .i64 0] 67)); replace hu := fun i => U.out.cell i
  have V := Aside0.mk (Blk.new W2 #[.int .i64 3, .int .i64 0] 67); have hv := fun i => V.out.cell i; clear hal
  go_wp2_with (first | (go_at_call 62; (with_reducible refine (K3.out _).mono ?_); rintro e W3 ⟨rfl, hb⟩; replace B := Aside0.mk (below_then B.out B.out.size hb); replace HA := Aside0.mk (HA.out.below hb); replace HC := Aside0.mk (HC.out.below hb); replace X := Aside0.mk (X.out.below hb); replace hx := fun i => X.out.cell i; replace Y := Aside0.mk (Y.out.below hb); replace hy := fun i => Y.out.cell i; replace U := Aside0.mk (U.out.below hb); replace hu := fun i => U.out.cell i; replace V := Aside0.mk (V.out.below hb); replace hv := fun i => V.out.cell i; have hxa := fun i => (X.out.alloc (.cells #[.int .i64 1, .int .i64 0] 67)).cell i; have hya := fun i => (Y.out.alloc (.cells #[.int .i64 1, .int .i64 0] 67)).cell i; have hua := fun i => (U.out.alloc (.cells #[.int .i64 1, .int .i64 0] 67)).cell i; have hva := fun i => (V.out.alloc (.cells #[.int .i64 1, .int .i64 0] 67)).cell i; clear  hb))
  (try clear hxa hya hua hva)
  have hal := below_alloc (Below.refl W3.heap.size W3) (.cells #[.int .i64 1, .int .i64 0] 67)
  replace B := Aside0.mk (below_then B.out B.out.size hal)
  replace HA := Aside0.mk (HA.out.below hal)
  replace HC := Aside0.mk (HC.out.below hal)
  replace X := Aside0.mk (X.out.alloc (.cells #[.int .i64 1, .int .i64 0] 67)); replace hx := fun i => X.out.cell i
  replace Y := Aside0.mk (Y.out.alloc (.cells #[.int .i64 1, .int .i64 0] 67)); replace hy := fun i => Y.out.cell i
  replace U := Aside0.mk (U.out.alloc (.cells #[.int .i64 1, .int .i64 0] 67)); replace hu := fun i => U.out.cell i
  replace V := Aside0.mk (V.out.alloc (.cells #[.int .i64 1, .int .i64 0] 67)); replace hv := fun i => V.out.cell i
  have T := Aside0.mk (Blk.new W3 #[.int .i64 1, .int .i64 0] 67); have ht := fun i => T.out.cell i; clear hal
  go_wp2_with (first | (go_at_call 59; (with_reducible refine (K4.out _ _ _ HA.out HA.out).mono ?_); rintro e W4 ⟨rfl, hb⟩; replace B := Aside0.mk (below_then B.out B.out.size hb); replace HA := Aside0.mk (HA.out.below hb); replace HC := Aside0.mk (HC.out.below hb); replace X := Aside0.mk (X.out.below hb); replace hx := fun i => X.out.cell i; replace Y := Aside0.mk (Y.out.below hb); replace hy := fun i => Y.out.cell i; replace U := Aside0.mk (U.out.below hb); replace hu := fun i => U.out.cell i; replace V := Aside0.mk (V.out.below hb); replace hv := fun i => V.out.cell i; replace T := Aside0.mk (T.out.below hb); replace ht := fun i => T.out.cell i; clear  hb) | (go_at_call 66; (with_reducible refine (K5.out _).mono ?_); rintro e W5 ⟨rfl, hb⟩; replace B := Aside0.mk (below_then B.out B.out.size hb); replace HA := Aside0.mk (HA.out.below hb); replace HC := Aside0.mk (HC.out.below hb); replace X := Aside0.mk (X.out.below hb); replace hx := fun i => X.out.cell i; replace Y := Aside0.mk (Y.out.below hb); replace hy := fun i => Y.out.cell i; replace U := Aside0.mk (U.out.below hb); replace hu := fun i => U.out.cell i; replace V := Aside0.mk (V.out.below hb); replace hv := fun i => V.out.cell i; replace T := Aside0.mk (T.out.below hb); replace ht := fun i => T.out.cell i; clear  hb))
  go_ret
  exact ⟨rfl, B.out⟩
end Go.Proofs.Ytacgeafjilipdaa.P
namespace Go.Proofs.Ytacgeafjilipdaa.P
open Go.RowKit Go.Proofs.YtacgeafjilipdaaW.PrintWords Go.Proofs.YtacgeafjilipdaaW.PrintLast Go.Proofs.YtacgeafjilipdaaW.PrintMore
attribute [local go_sem] max2_int min2_int max_two min_two max_three min_three max_four min_four
set_option linter.unusedVariables false
set_option linter.unusedSimpArgs false
def tidepolelaw11_few.l0 : Nat → Int → List (S144) → Int → Int → Option (Bool)
 | 0, _, _, _, _ => none
 | k + 1, x3, x6, x7, x8 => if x8 < x7 then (if 0 ≤ x8 then (if x8 < (x6.length : Int) then (if ((rd_T144 x6 x8).f1) > 0 then (if (wrap64 ((wrap64 (x3 + (wrap64 (1 + (wrap64 (Int.tdiv (mn ((rd_T144 x6 x8).f1) 5000) 10)))))) + 1)) > 400 then (some false) else (tidepolelaw11_few.l0 k (wrap64 ((wrap64 (x3 + (wrap64 (1 + (wrap64 (Int.tdiv (mn ((rd_T144 x6 x8).f1) 5000) 10)))))) + 1)) x6 x7 (wrap64 (x8 + 1)))) else (if (wrap64 (x3 + 1)) > 400 then (some false) else (tidepolelaw11_few.l0 k (wrap64 (x3 + 1)) x6 x7 (wrap64 (x8 + 1))))) else (none)) else (none)) else (some true)
def tidepolelaw11_few.f (k : Nat) (l0 : List (S144)) : Option (Bool) := tidepolelaw11_few.l0 k 0 l0 (l0.length : Int) 0
set_option maxHeartbeats 8000000 in
set_option maxRecDepth 100000 in
theorem tidepolelaw11_few.calls (k : Nat) (A0 : Option Addr) (c0 : Nat) (l0 : List (S144)) (r : Bool) (w : World) (hr0 : Kd.C k144 w A0 l0.length l0) (hc0 : l0.length ≤ c0) (h : tidepolelaw11_few.f k l0 = some r) :
  Calls Try.prog 134 #[.slice A0 l0.length c0] w fun e w' => e = .returned (.bool r) ∧ Below w.heap.size w w' := by
 have hu144 := Try.underlying144
 have HR0 := Aside0.mk hr0
 have HC0 := Aside0.mk hc0
 clear hr0 hc0
 have HB := Aside0.mk (Below.refl w.heap.size w)
 have H : (tidepolelaw11_few.l0 k 0 l0 (l0.length : Int) 0) = some r := h
 clear h
 have H' := Aside0.mk H
 clear H
 go_enter Try.func134, Try.ntmps134
 go_wp2
 go_loopg [3, 8] k (fun kq v3 v8 w' => ∃ (x3_1 : Int) (x8_1 : Int), v3 = .int .i64 x3_1 ∧ v8 = .int .i64 x8_1 ∧ Aside0 (tidepolelaw11_few.l0 kq x3_1 l0 (l0.length : Int) x8_1 = some r) ∧ Aside0 (kq ≤ k) ∧ Aside0 (Below w.heap.size w w'))
 case atStart => exact ⟨(0), (0), (by first | rfl | (simp; done) | (simp [*]; done)), (by first | rfl | (simp; done) | (simp [*]; done)), H', ⟨Nat.le_refl _⟩, ⟨by repeat (first | (with_reducible first | exact HB.out | apply below_alloc | apply pw_below_drewN | apply below_drew1) | exact HB.out)⟩⟩
 case round =>
  clear H'
  try clear c1
  obtain ⟨x3_1, x8_1, rfl, rfl, HA, HK1, HB⟩ := hrel
  cases gk with
  | zero => exact absurd HA.out (by simp [tidepolelaw11_few.l0])
  | succ k1 =>
   have H := HA.out
   clear HA
   simp only [tidepolelaw11_few.l0] at H
   by_cases c2 : x8_1 < (l0.length : Int)
   ·rw [if_pos c2] at H
    have c2b0 : decide (x8_1 < (l0.length : Int)) = true := decide_eq_true c2
    clear c2
    by_cases c3 : 0 ≤ x8_1
    ·rw [if_pos c3] at H
     have c3b0 : decide (0 ≤ x8_1) = true := decide_eq_true c3
     clear c3
     by_cases c4 : x8_1 < (l0.length : Int)
     ·rw [if_pos c4] at H
      have c4b0 : decide (x8_1 < (l0.length : Int)) = true := decide_eq_true c4
      clear c4
      by_cases c5 : ((rd_T144 l0 x8_1).f1) > 0
      ·rw [if_pos c5] at H
       have c5b0 : decide (0 < ((rd_T144 l0 x8_1).f1)) = true := decide_eq_true c5
       clear c5
       obtain ⟨ji6, hji6⟩ : ∃ j_ : Int, (mn ((rd_T144 l0 x8_1).f1) 5000) = j_ := ⟨_, rfl⟩
       replace H : (if (wrap64 ((wrap64 (x3_1 + (wrap64 (1 + (wrap64 (Int.tdiv (ji6) 10)))))) + 1)) > 400 then (some false) else (tidepolelaw11_few.l0 k1 (wrap64 ((wrap64 (x3_1 + (wrap64 (1 + (wrap64 (Int.tdiv (ji6) 10)))))) + 1)) l0 (l0.length : Int) (wrap64 (x8_1 + 1)))) = some r := by first | (rw [hji6] at H; exact H) | (simp only [hji6] at H ⊢; exact H)
       have hji6_ : (if 5000 < ((rd_T144 l0 x8_1).f1) then 5000 else ((rd_T144 l0 x8_1).f1)) = ji6 := hji6
       by_cases c7 : (wrap64 ((wrap64 (x3_1 + (wrap64 (1 + (wrap64 (Int.tdiv (ji6) 10)))))) + 1)) > 400
       ·rw [if_pos c7] at H
        have c7b0 : decide (400 < (wrap64 ((wrap64 (x3_1 + (wrap64 (1 + (wrap64 (Int.tdiv (ji6) 10)))))) + 1))) = true := decide_eq_true c7
        clear c7
        obtain rfl := Option.some.inj H
        have p101 : 0 ≤ (x8_1 : Int) := of_decide_eq_true (by first | (with_reducible assumption) | assumption)
        have q101 : x8_1 < (l0.length : Int) := of_decide_eq_true (by first | (with_reducible assumption) | assumption)
        obtain ⟨ad101, e101, hx101_0, hx101_1⟩ := at_T144 HR0.out x8_1 p101 q101
        cases e101
        replace hx101_0 := (HB.out.cell (World.block_lt_of_cell? w _ hx101_0)).trans hx101_0
        replace hx101_1 := (HB.out.cell (World.block_lt_of_cell? w _ hx101_1)).trans hx101_1
        replace p101 := eq_true p101
        replace q101 := eq_true q101
        go_wp2_with (first | ((with_reducible refine gate_dst (N := 5) rfl ?_); refine box_event ?hg (N := 5) ?hd (cs := #[.int .i64 0, .int .i64 0]) (t := 144) ?hr ?_; (case hd => rfl); (case hg => rfl); (case hr => first | (go_simp; done) | (go_simp; rfl)); intro gb102 hg w8 hbox hb; have n0_ := Aside0.mk (below_step (by repeat (first | (with_reducible first | exact HB.out | apply below_alloc | apply pw_below_drewN | apply below_drew1) | exact HB.out)) hb); have n1_ := Aside0.mk (hbox); have n2_ := Aside0.mk ((by rw [hg]; exact (below_size (by repeat (first | (with_reducible first | exact HB.out | apply below_alloc | apply pw_below_drewN | apply below_drew1) | exact HB.out))) : w.heap.size ≤ gb102)); have n3_ := Aside0.mk ((by rw [hg]; exact (below_size (by repeat (first | (with_reducible first | exact HB.out | apply below_alloc | apply pw_below_drewN | apply below_drew1) | exact HB.out))) : w.heap.size ≤ gb102)); clear HB; have HB := n0_; have BK102 := n1_; have GW102 := n2_; have GE102 := n3_; clear n0_ n1_ n2_ n3_; clear hb hbox hg; have hcz9_0 : w8.cell? ⟨gb102, 0, none⟩ = some (.int .i64 0) := (blk_cell BK102.out 0).trans rfl; have hcz9_1 : w8.cell? ⟨gb102, 1, none⟩ = some (.int .i64 0) := (blk_cell BK102.out 1).trans rfl; have hfz9_0 := blk_frozen BK102.out 0; have hfz9_1 := blk_frozen BK102.out 1))
        go_ret
        exact ⟨by first | rfl | (simp [errW_none, errW_some] <;> rfl) | (simp only [← hji6]; first | rfl | (simp [errW_none, errW_some] <;> rfl)) | (simp [*, errW_none, errW_some] <;> rfl), by repeat (first | (with_reducible first | exact HB.out | apply below_alloc | apply pw_below_drewN | apply below_drew1 | refine below_set ?_ GE102.out) | exact HB.out)⟩
       ·rw [if_neg c7] at H
        have c7b0 : decide (400 < (wrap64 ((wrap64 (x3_1 + (wrap64 (1 + (wrap64 (Int.tdiv (ji6) 10)))))) + 1))) = false := decide_eq_false c7
        clear c7
        have H' := Aside0.mk H
        clear H
        have p101 : 0 ≤ (x8_1 : Int) := of_decide_eq_true (by first | (with_reducible assumption) | assumption)
        have q101 : x8_1 < (l0.length : Int) := of_decide_eq_true (by first | (with_reducible assumption) | assumption)
        obtain ⟨ad101, e101, hx101_0, hx101_1⟩ := at_T144 HR0.out x8_1 p101 q101
        cases e101
        replace hx101_0 := (HB.out.cell (World.block_lt_of_cell? w _ hx101_0)).trans hx101_0
        replace hx101_1 := (HB.out.cell (World.block_lt_of_cell? w _ hx101_1)).trans hx101_1
        replace p101 := eq_true p101
        replace q101 := eq_true q101
        go_wp2_with (first | ((with_reducible refine gate_dst (N := 5) rfl ?_); refine box_event ?hg (N := 5) ?hd (cs := #[.int .i64 0, .int .i64 0]) (t := 144) ?hr ?_; (case hd => rfl); (case hg => rfl); (case hr => first | (go_simp; done) | (go_simp; rfl)); intro gb102 hg w10 hbox hb; have n0_ := Aside0.mk (below_step (by repeat (first | (with_reducible first | exact HB.out | apply below_alloc | apply pw_below_drewN | apply below_drew1) | exact HB.out)) hb); have n1_ := Aside0.mk (hbox); have n2_ := Aside0.mk ((by rw [hg]; exact (below_size (by repeat (first | (with_reducible first | exact HB.out | apply below_alloc | apply pw_below_drewN | apply below_drew1) | exact HB.out))) : w.heap.size ≤ gb102)); have n3_ := Aside0.mk ((by rw [hg]; exact (below_size (by repeat (first | (with_reducible first | exact HB.out | apply below_alloc | apply pw_below_drewN | apply below_drew1) | exact HB.out))) : w.heap.size ≤ gb102)); clear HB; have HB := n0_; have BK102 := n1_; have GW102 := n2_; have GE102 := n3_; clear n0_ n1_ n2_ n3_; clear hb hbox hg; have hcz11_0 : w10.cell? ⟨gb102, 0, none⟩ = some (.int .i64 0) := (blk_cell BK102.out 0).trans rfl; have hcz11_1 : w10.cell? ⟨gb102, 1, none⟩ = some (.int .i64 0) := (blk_cell BK102.out 1).trans rfl; have hfz11_0 := blk_frozen BK102.out 0; have hfz11_1 := blk_frozen BK102.out 1))
        go_roundg k1
        case measure => have := HK1.out; omega
        case rel => exact ⟨(wrap64 ((wrap64 (x3_1 + (wrap64 (1 + (wrap64 (Int.tdiv (ji6) 10)))))) + 1)), (wrap64 (x8_1 + 1)), (by first | rfl | (simp; done) | (simp only [← hji6] <;> (first | rfl | simp)) | (simp [*]; done)), (by first | rfl | (simp; done) | (simp [*]; done)), H', ⟨by have := HK1.out; omega⟩, ⟨by repeat (first | (with_reducible first | exact HB.out | apply below_alloc | apply pw_below_drewN | apply below_drew1 | refine below_set ?_ GE102.out) | exact HB.out)⟩⟩
      ·rw [if_neg c5] at H
       have c5b0 : decide (0 < ((rd_T144 l0 x8_1).f1)) = false := decide_eq_false c5
       clear c5
       by_cases c12 : (wrap64 (x3_1 + 1)) > 400
       ·rw [if_pos c12] at H
        have c12b0 : decide (400 < (wrap64 (x3_1 + 1))) = true := decide_eq_true c12
        clear c12
        obtain rfl := Option.some.inj H
        have p101 : 0 ≤ (x8_1 : Int) := of_decide_eq_true (by first | (with_reducible assumption) | assumption)
        have q101 : x8_1 < (l0.length : Int) := of_decide_eq_true (by first | (with_reducible assumption) | assumption)
        obtain ⟨ad101, e101, hx101_0, hx101_1⟩ := at_T144 HR0.out x8_1 p101 q101
        cases e101
        replace hx101_0 := (HB.out.cell (World.block_lt_of_cell? w _ hx101_0)).trans hx101_0
        replace hx101_1 := (HB.out.cell (World.block_lt_of_cell? w _ hx101_1)).trans hx101_1
        replace p101 := eq_true p101
        replace q101 := eq_true q101
        go_wp2_with (first | ((with_reducible refine gate_dst (N := 5) rfl ?_); refine box_event ?hg (N := 5) ?hd (cs := #[.int .i64 0, .int .i64 0]) (t := 144) ?hr ?_; (case hd => rfl); (case hg => rfl); (case hr => first | (go_simp; done) | (go_simp; rfl)); intro gb102 hg w13 hbox hb; have n0_ := Aside0.mk (below_step (by repeat (first | (with_reducible first | exact HB.out | apply below_alloc | apply pw_below_drewN | apply below_drew1) | exact HB.out)) hb); have n1_ := Aside0.mk (hbox); have n2_ := Aside0.mk ((by rw [hg]; exact (below_size (by repeat (first | (with_reducible first | exact HB.out | apply below_alloc | apply pw_below_drewN | apply below_drew1) | exact HB.out))) : w.heap.size ≤ gb102)); have n3_ := Aside0.mk ((by rw [hg]; exact (below_size (by repeat (first | (with_reducible first | exact HB.out | apply below_alloc | apply pw_below_drewN | apply below_drew1) | exact HB.out))) : w.heap.size ≤ gb102)); clear HB; have HB := n0_; have BK102 := n1_; have GW102 := n2_; have GE102 := n3_; clear n0_ n1_ n2_ n3_; clear hb hbox hg; have hcz14_0 : w13.cell? ⟨gb102, 0, none⟩ = some (.int .i64 0) := (blk_cell BK102.out 0).trans rfl; have hcz14_1 : w13.cell? ⟨gb102, 1, none⟩ = some (.int .i64 0) := (blk_cell BK102.out 1).trans rfl; have hfz14_0 := blk_frozen BK102.out 0; have hfz14_1 := blk_frozen BK102.out 1))
        go_ret
        exact ⟨by first | rfl | (simp [errW_none, errW_some] <;> rfl) | (simp [*, errW_none, errW_some] <;> rfl), by repeat (first | (with_reducible first | exact HB.out | apply below_alloc | apply pw_below_drewN | apply below_drew1 | refine below_set ?_ GE102.out) | exact HB.out)⟩
       ·rw [if_neg c12] at H
        have c12b0 : decide (400 < (wrap64 (x3_1 + 1))) = false := decide_eq_false c12
        clear c12
        have H' := Aside0.mk H
        clear H
        have p101 : 0 ≤ (x8_1 : Int) := of_decide_eq_true (by first | (with_reducible assumption) | assumption)
        have q101 : x8_1 < (l0.length : Int) := of_decide_eq_true (by first | (with_reducible assumption) | assumption)
        obtain ⟨ad101, e101, hx101_0, hx101_1⟩ := at_T144 HR0.out x8_1 p101 q101
        cases e101
        replace hx101_0 := (HB.out.cell (World.block_lt_of_cell? w _ hx101_0)).trans hx101_0
        replace hx101_1 := (HB.out.cell (World.block_lt_of_cell? w _ hx101_1)).trans hx101_1
        replace p101 := eq_true p101
        replace q101 := eq_true q101
        go_wp2_with (first | ((with_reducible refine gate_dst (N := 5) rfl ?_); refine box_event ?hg (N := 5) ?hd (cs := #[.int .i64 0, .int .i64 0]) (t := 144) ?hr ?_; (case hd => rfl); (case hg => rfl); (case hr => first | (go_simp; done) | (go_simp; rfl)); intro gb102 hg w15 hbox hb; have n0_ := Aside0.mk (below_step (by repeat (first | (with_reducible first | exact HB.out | apply below_alloc | apply pw_below_drewN | apply below_drew1) | exact HB.out)) hb); have n1_ := Aside0.mk (hbox); have n2_ := Aside0.mk ((by rw [hg]; exact (below_size (by repeat (first | (with_reducible first | exact HB.out | apply below_alloc | apply pw_below_drewN | apply below_drew1) | exact HB.out))) : w.heap.size ≤ gb102)); have n3_ := Aside0.mk ((by rw [hg]; exact (below_size (by repeat (first | (with_reducible first | exact HB.out | apply below_alloc | apply pw_below_drewN | apply below_drew1) | exact HB.out))) : w.heap.size ≤ gb102)); clear HB; have HB := n0_; have BK102 := n1_; have GW102 := n2_; have GE102 := n3_; clear n0_ n1_ n2_ n3_; clear hb hbox hg; have hcz16_0 : w15.cell? ⟨gb102, 0, none⟩ = some (.int .i64 0) := (blk_cell BK102.out 0).trans rfl; have hcz16_1 : w15.cell? ⟨gb102, 1, none⟩ = some (.int .i64 0) := (blk_cell BK102.out 1).trans rfl; have hfz16_0 := blk_frozen BK102.out 0; have hfz16_1 := blk_frozen BK102.out 1))
        go_roundg k1
        case measure => have := HK1.out; omega
        case rel => exact ⟨(wrap64 (x3_1 + 1)), (wrap64 (x8_1 + 1)), (by first | rfl | (simp; done) | (simp [*]; done)), (by first | rfl | (simp; done) | (simp [*]; done)), H', ⟨by have := HK1.out; omega⟩, ⟨by repeat (first | (with_reducible first | exact HB.out | apply below_alloc | apply pw_below_drewN | apply below_drew1 | refine below_set ?_ GE102.out) | exact HB.out)⟩⟩
     ·rw [if_neg c4] at H
      exact absurd H (by simp)
    ·rw [if_neg c3] at H
     exact absurd H (by simp)
   ·rw [if_neg c2] at H
    have c2b0 : decide (x8_1 < (l0.length : Int)) = false := decide_eq_false c2
    clear c2
    obtain rfl := Option.some.inj H
    go_wp2
    go_ret
    exact ⟨by first | rfl | (simp [errW_none, errW_some] <;> rfl) | (simp [*, errW_none, errW_some] <;> rfl), by repeat (first | (with_reducible first | exact HB.out | apply below_alloc | apply pw_below_drewN | apply below_drew1) | exact HB.out)⟩
end Go.Proofs.Ytacgeafjilipdaa.P
namespace Go.Proofs.Ytacgeafjilipdaa.P
open Go.RowKit Go.Proofs.YtacgeafjilipdaaW.PrintWords Go.Proofs.YtacgeafjilipdaaW.PrintLast Go.Proofs.YtacgeafjilipdaaW.PrintMore
attribute [local go_sem] max2_int min2_int max_two min_two max_three min_three max_four min_four
set_option linter.unusedVariables false
set_option linter.unusedSimpArgs false
def tidepolelaw11_spans.l0 : Nat → List (S147) → List (S144) → Int → Int → Option ((List (S147)))
 | 0, _, _, _, _ => none
 | k + 1, x3, x6, x7, x8 => if x8 < x7 then (if 0 ≤ x8 then (if x8 < (x6.length : Int) then (if x3.length < 8796093022208 then (tidepolelaw11_spans.l0 k (x3 ++ [(⟨(rd_T144 x6 x8).f0, (rd_T144 x6 x8).f1⟩ : S147)]) x6 x7 (wrap64 (x8 + 1))) else (none)) else (none)) else (none)) else (some x3)
def tidepolelaw11_spans.f (k : Nat) (l0 : List (S144)) : Option ((List (S147))) := tidepolelaw11_spans.l0 k ([] : List (S147)) l0 (l0.length : Int) 0
set_option maxHeartbeats 8000000 in
set_option maxRecDepth 100000 in
theorem tidepolelaw11_spans.calls (k : Nat) (A0 : Option Addr) (c0 : Nat) (l0 : List (S144)) (r : List (S147)) (w : World) (hr0 : Kd.C k144 w A0 l0.length l0) (hc0 : l0.length ≤ c0) (h : tidepolelaw11_spans.f k l0 = some r) :
  Calls Try.prog 139 #[.slice A0 l0.length c0] w fun e w' => ∃ v0_ : Value, e = .returned (v0_) ∧ Kd.R k147 147 w' w.heap.size (fun _ => True) v0_ r ∧ Below w.heap.size w w' := by
 have hu144 := Try.underlying144
 have hu147 := Try.underlying147
 have HR0 := Aside0.mk hr0
 have HC0 := Aside0.mk hc0
 clear hr0 hc0
 have HB := Aside0.mk (Below.refl w.heap.size w)
 have H : (tidepolelaw11_spans.l0 k ([] : List (S147)) l0 (l0.length : Int) 0) = some r := h
 clear h
 have H' := Aside0.mk H
 clear H
 go_enter Try.func139, Try.ntmps139
 go_wp2
 go_loopg [3, 8] k (fun kq v3 v8 w' => ∃ (x3_1 : List (S147)) (x8_1 : Int), v8 = .int .i64 x8_1 ∧ Aside0 (tidepolelaw11_spans.l0 kq x3_1 l0 (l0.length : Int) x8_1 = some r) ∧ Aside0 (kq ≤ k) ∧ Aside0 (Kd.R k147 147 w' w.heap.size (fun _ => True) v3 x3_1) ∧ Aside0 (Below w.heap.size w w'))
 case atStart => exact ⟨(([] : List (S147))), (0), (by first | rfl | (simp; done) | (simp [*]; done)), H', ⟨Nat.le_refl _⟩, ⟨by first | exact Kd.R_nil _ _ _ _ _ | exact Kd.N_nil _ _ _ _ _ | exact Kd.V_nil _ _ _ _ _ | exact Kd.Q_nil _ _ _ _ _ | exact Kd.S_nil _ _ _ _ _⟩, ⟨by repeat (first | (with_reducible first | exact HB.out | apply below_alloc | apply pw_below_drewN | apply below_drew1) | exact HB.out)⟩⟩
 case round =>
  clear H'
  try clear c1
  obtain ⟨x3_1, x8_1, rfl, HA, HK1, HO_3, HB⟩ := hrel
  cases gk with
  | zero => exact absurd HA.out (by simp [tidepolelaw11_spans.l0])
  | succ k1 =>
   have H := HA.out
   clear HA
   simp only [tidepolelaw11_spans.l0] at H
   by_cases c2 : x8_1 < (l0.length : Int)
   ·rw [if_pos c2] at H
    have c2b0 : decide (x8_1 < (l0.length : Int)) = true := decide_eq_true c2
    clear c2
    by_cases c3 : 0 ≤ x8_1
    ·rw [if_pos c3] at H
     have c3b0 : decide (0 ≤ x8_1) = true := decide_eq_true c3
     clear c3
     by_cases c4 : x8_1 < (l0.length : Int)
     ·rw [if_pos c4] at H
      have c4b0 : decide (x8_1 < (l0.length : Int)) = true := decide_eq_true c4
      clear c4
      by_cases c5 : x3_1.length < 8796093022208
      ·rw [if_pos c5] at H
       have LMc5 := Aside0.mk c5
       clear c5
       obtain ⟨y103, hy103⟩ : ∃ y_ : List (S147), y_ = (x3_1 ++ [(⟨(rd_T144 l0 x8_1).f0, (rd_T144 l0 x8_1).f1⟩ : S147)]) := ⟨_, rfl⟩
       replace H : (tidepolelaw11_spans.l0 k1 y103 l0 (l0.length : Int) (wrap64 (x8_1 + 1))) = some r := by first | (rw [hy103]; with_reducible exact H) | (have H2_ := (Option.bind_some _ _).symm.trans H; rw [hy103]; with_reducible exact H2_) | (have H2_ := (Option.bind_some _ _).symm.trans H; with_reducible exact H2_) | with_reducible exact H | (rw [hy103]; exact H) | exact H
       have Ny103 := Aside0.mk hy103
       clear hy103
       have H' := Aside0.mk H
       clear H
       have p101 : 0 ≤ (x8_1 : Int) := of_decide_eq_true (by first | (with_reducible assumption) | assumption)
       have q101 : x8_1 < (l0.length : Int) := of_decide_eq_true (by first | (with_reducible assumption) | assumption)
       obtain ⟨ad101, e101, hx101_0, hx101_1⟩ := at_T144 HR0.out x8_1 p101 q101
       cases e101
       replace hx101_0 := (HB.out.cell (World.block_lt_of_cell? w _ hx101_0)).trans hx101_0
       replace hx101_1 := (HB.out.cell (World.block_lt_of_cell? w _ hx101_1)).trans hx101_1
       replace p101 := eq_true p101
       replace q101 := eq_true q101
       go_wp2_with (first | ((with_reducible refine gate_dst (N := 5) rfl ?_); refine box_event ?hg (N := 5) ?hd (cs := #[.int .i64 0, .int .i64 0]) (t := 144) ?hr ?_; (case hd => rfl); (case hg => rfl); (case hr => first | (go_simp; done) | (go_simp; rfl)); intro gb102 hg w6 hbox hb; have n0_ := Aside0.mk (Kd.R_below (by (with_reducible repeat (first | apply Kd.R_alloc | apply Kd.R_drewN | apply Kd.R_drew)); exact HO_3.out) hb); have n1_ := Aside0.mk (below_step (by repeat (first | (with_reducible first | exact HB.out | apply below_alloc | apply pw_below_drewN | apply below_drew1) | exact HB.out)) hb); have n2_ := Aside0.mk (hbox); have n3_ := Aside0.mk ((by rw [hg]; exact (below_size (by repeat (first | (with_reducible first | exact HB.out | apply below_alloc | apply pw_below_drewN | apply below_drew1) | exact HB.out))) : w.heap.size ≤ gb102)); have n4_ := Aside0.mk ((by rw [hg]; exact (below_size (by repeat (first | (with_reducible first | exact HB.out | apply below_alloc | apply pw_below_drewN | apply below_drew1) | exact HB.out))) : w.heap.size ≤ gb102)); clear HO_3; clear HB; have HO_3 := n0_; have HB := n1_; have BK102 := n2_; have GW102 := n3_; have GE102 := n4_; clear n0_ n1_ n2_ n3_ n4_; clear hb hbox hg; have hcz7_0 : w6.cell? ⟨gb102, 0, none⟩ = some (.int .i64 0) := (blk_cell BK102.out 0).trans rfl; have hcz7_1 : w6.cell? ⟨gb102, 1, none⟩ = some (.int .i64 0) := (blk_cell BK102.out 1).trans rfl; have hfz7_0 := blk_frozen BK102.out 0; have hfz7_1 := blk_frozen BK102.out 1) | ((with_reducible refine gate_builtin (b := .append) (xs := #[.tmp 12, .tmp 18]) rfl ?_); at_builtin; refine Kd.R_append k147 (w0 := w) w.heap.size rfl (.tmp 12) (.tmp 18) 35 147 (.agg #[(.int .i64 0), (.int .i64 0)]) 16 rfl Try.underlying35 info147 rfl (by decide) (by omega) u3 x3_1 (⟨(rd_T144 l0 x8_1).f0, (rd_T144 l0 x8_1).f1⟩ : S147) [.int .i64 ((rd_T144 l0 x8_1).f0), .int .i64 ((rd_T144 l0 x8_1).f1)] (fun _ => True) (fun _ => False) rfl (by first | (go_simp; done) | (go_simp; rfl)) ?aP (fun _ hk => hk.elim) ?aF ?aO ?aB ?aS ?aL ?_; (case aP => exact k147_mkM _ _ _ (⟨(rd_T144 l0 x8_1).f0, (rd_T144 l0 x8_1).f1⟩ : S147)); (case aB => exact (by repeat (first | (with_reducible first | exact HB.out | apply below_alloc | apply pw_below_drewN | apply below_drew1 | refine below_set ?_ GE102.out) | exact HB.out))); (case aF => exact (fun _ _ => trivial)); (case aO => exact (by (with_reducible repeat (first | apply Kd.R_alloc | apply Kd.R_drewN | apply Kd.R_drew)); exact Kd.R_mono (Kd.R_far (p := ⟨gb102, 1, none⟩) (Kd.R_far (p := ⟨gb102, 0, none⟩) (Kd.R_types HO_3.out BK102.out (by decide)) (fun _ hk => hk.2) (.int .i64 ((rd_T144 l0 x8_1).f0))) (fun _ hk => hk.2) (.int .i64 ((rd_T144 l0 x8_1).f1))) (fun _ hk => trivial))); (case aS => exact (below_size (by repeat (first | (with_reducible first | exact HB.out | apply below_alloc | apply pw_below_drewN | apply below_drew1 | refine below_set ?_ GE102.out) | exact HB.out)))); (case aL => have := LMc5.out; omega); intro v104 w8 ho hb hg hat; rw [← Ny103.out] at ho; have n0_ := Aside0.mk (blk_grown (g := gb102) (o := .cells #[.int .i64 ((rd_T144 l0 x8_1).f0), .int .i64 ((rd_T144 l0 x8_1).f1)] 144 (0, 0)) (by (with_reducible repeat (first | refine blk_drewN ?_ _ | refine blk_drew ?_ | refine blk_alloc ?_ _)); refine blk_put (cs := #[.int .i64 ((rd_T144 l0 x8_1).f0), .int .i64 0]) ?_ 1 _ rfl; (with_reducible repeat (first | refine blk_drewN ?_ _ | refine blk_drew ?_ | refine blk_alloc ?_ _)); refine blk_put (cs := #[.int .i64 0, .int .i64 0]) ?_ 0 _ rfl; (with_reducible repeat (first | refine blk_drewN ?_ _ | refine blk_drew ?_ | refine blk_alloc ?_ _)); exact BK102.out) hg (Kd.R_ne HO_3.out BK102.out (by decide))); have n1_ := Aside0.mk (hb); have n2_ := Aside0.mk (ho); clear BK102; clear HB; clear HO_3; have BK102 := n0_; have HB := n1_; have HO105 := n2_; clear n0_ n1_ n2_; clear ho hb hg hat))
       go_roundg k1
       case measure => have := HK1.out; omega
       case rel => exact ⟨(y103), (wrap64 (x8_1 + 1)), (by first | rfl | (simp; done) | (simp [*]; done)), H', ⟨by have := HK1.out; omega⟩, ⟨by (with_reducible repeat (first | apply Kd.R_alloc | apply Kd.R_drewN | apply Kd.R_drew)); exact HO105.out⟩, ⟨by repeat (first | (with_reducible first | exact HB.out | apply below_alloc | apply pw_below_drewN | apply below_drew1 | refine below_set ?_ GE102.out) | exact HB.out)⟩⟩
      ·rw [if_neg c5] at H
       exact absurd H (by simp)
     ·rw [if_neg c4] at H
      exact absurd H (by simp)
    ·rw [if_neg c3] at H
     exact absurd H (by simp)
   ·rw [if_neg c2] at H
    have c2b0 : decide (x8_1 < (l0.length : Int)) = false := decide_eq_false c2
    clear c2
    obtain rfl := Option.some.inj H
    go_wp2
    go_ret
    exact ⟨_, by first | rfl | (simp [errW_none, errW_some] <;> rfl) | (simp [*, errW_none, errW_some] <;> rfl), by (with_reducible repeat (first | apply Kd.R_alloc | apply Kd.R_drewN | apply Kd.R_drew)); exact HO_3.out, by repeat (first | (with_reducible first | exact HB.out | apply below_alloc | apply pw_below_drewN | apply below_drew1) | exact HB.out)⟩
def tidepolelaw11_ints.f (k : Nat) (a0_0 : Int) (a0_1 : Int) (a0_2 : Int) (a0_3 : Int) (a0_4 : Int) (l0_5 : List (S144)) (l0_6 : List (S144)) (l0_7 : List Int) (l0_8 : List Int) : Option (Int × Int × Int × Int × Int × (List (S147)) × (List (S147)) × List Int × List Int) := (tidepolelaw11_spans.f k l0_5).bind fun t103 => ((tidepolelaw11_spans.f k l0_6).bind fun t106 => (some (a0_0, a0_1, a0_2, a0_3, a0_4, t103, t106, l0_7, l0_8)))
def tidepolelaw11_ints.T1 : Bool × List (List Nat × List Nat) := (true, [([], []), ([0], [0]), ([], []), ([2], [2]), ([], []), ([4], [4]), ([], []), ([6], [6]), ([], []), ([8], [8]), ([], []), ([10], [10]), ([11], [11]), ([], []), ([13], [13]), ([14, 12], [14]), ([], []), ([16], [16]), ([], []), ([18], [18]), ([1, 3, 5, 7, 9, 12, 15, 17, 19], [1, 3, 5, 7, 9, 12, 15, 17, 19]), ([20, 15, 0, 1, 2, 3, 4, 5, 6, 7, 8, 9, 10, 11, 12, 13, 14, 15, 16, 17, 18, 19, 20], [20])])
def tidepolelaw11_ints.B1 : List Nat := [0, 1, 0, 4, 0, 16, 0, 64, 0, 256, 0, 1024, 3072, 0, 8192, 31744, 0, 65536, 0, 262144, 1048575, 2097151]
theorem tidepolelaw11_ints.tab1 : rtab .any (opsOf Try.f58 1) = tidepolelaw11_ints.T1 := by kernel_rfl
theorem tidepolelaw11_ints.bits1 : waitsOk tidepolelaw11_ints.T1.2 tidepolelaw11_ints.B1 = true := by kernel_rfl
set_option maxHeartbeats 8000000 in
set_option maxRecDepth 100000 in
theorem tidepolelaw11_ints.calls (k : Nat) (a0_0 : Int) (a0_1 : Int) (a0_2 : Int) (a0_3 : Int) (a0_4 : Int) (A0_5 : Option Addr) (c0_5 : Nat) (l0_5 : List (S144)) (A0_6 : Option Addr) (c0_6 : Nat) (l0_6 : List (S144)) (P0_7_ : Nat → Prop) (A0_7 : Option Addr) (c0_7 : Nat) (l0_7 : List Int) (P0_8_ : Nat → Prop) (A0_8 : Option Addr) (c0_8 : Nat) (l0_8 : List Int) (r1 : Int) (r2 : Int) (r3 : Int) (r4 : Int) (r5 : Int) (r6 : List (S147)) (r7 : List (S147)) (r8 : List Int) (r9 : List Int) (w : World) (hr0_5 : Kd.C k144 w A0_5 l0_5.length l0_5) (hc0_5 : l0_5.length ≤ c0_5) (hr0_6 : Kd.C k144 w A0_6 l0_6.length l0_6) (hc0_6 : l0_6.length ≤ c0_6) (hs0_7 : Kd.V (Kd.int .i64) 2 w w.heap.size (fun k_ => P0_7_ k_) (.slice A0_7 l0_7.length c0_7) l0_7) (hs0_8 : Kd.V (Kd.int .i64) 2 w w.heap.size (fun k_ => P0_8_ k_) (.slice A0_8 l0_8.length c0_8) l0_8) (h : tidepolelaw11_ints.f k a0_0 a0_1 a0_2 a0_3 a0_4 l0_5 l0_6 l0_7 l0_8 = some (r1, r2, r3, r4, r5, r6, r7, r8, r9)) :
  Calls Try.prog 58 #[.agg #[.int .i64 a0_0, .int .u64 a0_1, .int .u64 a0_2, .int .u64 a0_3, .int .u64 a0_4, .slice A0_5 l0_5.length c0_5, .slice A0_6 l0_6.length c0_6, .slice A0_7 l0_7.length c0_7, .slice A0_8 l0_8.length c0_8]] w fun e w' => ∃ v5_ v6_ v7_ v8_ : Value, e = .returned (.agg #[.int .i64 r1, .int .u64 r2, .int .u64 r3, .int .u64 r4, .int .u64 r5, v5_, v6_, v7_, v8_]) ∧ Kd.R k147 147 w' w.heap.size (fun k_ => (w.heap.size ≤ k_) ∧ some k_ ≠ (v6_ : Value).ownBlock) v5_ r6 ∧ Kd.R k147 147 w' w.heap.size (fun k_ => (w.heap.size ≤ k_) ∧ some k_ ≠ (v5_ : Value).ownBlock) v6_ r7 ∧ Kd.V (Kd.int .i64) 2 w' w.heap.size (fun k_ => ((P0_7_ k_ ∨ P0_8_ k_) ∨ w.heap.size ≤ k_) ∧ some k_ ≠ (v5_ : Value).ownBlock ∧ some k_ ≠ (v6_ : Value).ownBlock) v7_ r8 ∧ Kd.V (Kd.int .i64) 2 w' w.heap.size (fun k_ => ((P0_7_ k_ ∨ P0_8_ k_) ∨ w.heap.size ≤ k_) ∧ some k_ ≠ (v5_ : Value).ownBlock ∧ some k_ ≠ (v6_ : Value).ownBlock) v8_ r9 ∧ Below w.heap.size w w' := by
 have hu64 := Try.underlying64
 have hu72 := Try.underlying72
 have HR0_5 := Aside0.mk hr0_5
 have HC0_5 := Aside0.mk hc0_5
 clear hr0_5 hc0_5
 have HR0_6 := Aside0.mk hr0_6
 have HC0_6 := Aside0.mk hc0_6
 clear hr0_6 hc0_6
 have HO0_7 := Aside0.mk (show Kd.V (Kd.int .i64) 2 w w.heap.size (fun k_ => ((P0_7_ k_ ∨ P0_8_ k_) ∨ w.heap.size ≤ k_)) (.slice A0_7 l0_7.length c0_7) l0_7 from Kd.V_mono hs0_7 (fun k_ hk => .inl (.inl hk)))
 have HO0_8 := Aside0.mk (show Kd.V (Kd.int .i64) 2 w w.heap.size (fun k_ => ((P0_7_ k_ ∨ P0_8_ k_) ∨ w.heap.size ≤ k_)) (.slice A0_8 l0_8.length c0_8) l0_8 from Kd.V_mono hs0_8 (fun k_ hk => .inl (.inr hk)))
 have HB := Aside0.mk (Below.refl w.heap.size w)
 have H : ((tidepolelaw11_spans.f k l0_5).bind fun t103 => ((tidepolelaw11_spans.f k l0_6).bind fun t106 => (some (a0_0, a0_1, a0_2, a0_3, a0_4, t103, t106, l0_7, l0_8)))) = some (r1, r2, r3, r4, r5, r6, r7, r8, r9) := h
 clear h
 replace H := Option.bind_eq_some_iff.mp H
 obtain ⟨t103, A20, H⟩ := H
 replace H : ((tidepolelaw11_spans.f k l0_6).bind fun t106 => (some (a0_0, a0_1, a0_2, a0_3, a0_4, t103, t106, l0_7, l0_8))) = some (r1, r2, r3, r4, r5, r6, r7, r8, r9) := H
 have A2 := Aside0.mk A20
 clear A20
 replace H := Option.bind_eq_some_iff.mp H
 obtain ⟨t106, A30, H⟩ := H
 replace H : (some (a0_0, a0_1, a0_2, a0_3, a0_4, t103, t106, l0_7, l0_8)) = some (r1, r2, r3, r4, r5, r6, r7, r8, r9) := H
 have A3 := Aside0.mk A30
 clear A30
 simp only [Option.some.injEq, Prod.mk.injEq] at H
 obtain ⟨rfl, rfl, rfl, rfl, rfl, rfl, rfl, rfl, rfl⟩ := H
 go_enter Try.func58, Try.ntmps58
 try go_wp2_with (first | ((with_reducible refine gate_dst (N := 1) rfl ?_); refine box_event ?hg (N := 1) ?hd (cs := #[.int .i64 a0_0, .int .u64 a0_1, .int .u64 a0_2, .int .u64 a0_3, .int .u64 a0_4, .slice A0_5 l0_5.length c0_5, .slice A0_6 l0_6.length c0_6, .slice A0_7 l0_7.length c0_7, .slice A0_8 l0_8.length c0_8]) (t := 64) ?hr ?_; (case hd => rfl); (case hg => rfl); (case hr => first | (go_simp; done) | (go_simp; rfl)); intro gb101 hg w4 hbox hb; have n0_ := Aside0.mk (Kd.V_below (Kd.V_elderB (by (with_reducible repeat (first | apply Kd.V_alloc | apply Kd.V_drewN | apply Kd.V_drew)); exact HO0_7.out) gb101 (Nat.le_of_eq hg.symm)) hb); have n1_ := Aside0.mk (Kd.V_below (Kd.V_elderB (by (with_reducible repeat (first | apply Kd.V_alloc | apply Kd.V_drewN | apply Kd.V_drew)); exact HO0_8.out) gb101 (Nat.le_of_eq hg.symm)) hb); have n2_ := Aside0.mk (below_step (by repeat (first | (with_reducible first | exact HB.out | apply below_alloc | apply pw_below_drewN | apply below_drew1) | exact HB.out)) hb); have n3_ := Aside0.mk (hbox); have n4_ := Aside0.mk ((by rw [hg]; exact (below_size (by repeat (first | (with_reducible first | exact HB.out | apply below_alloc | apply pw_below_drewN | apply below_drew1) | exact HB.out))) : w.heap.size ≤ gb101)); have n5_ := Aside0.mk ((by rw [hg]; exact (below_size (by repeat (first | (with_reducible first | exact HB.out | apply below_alloc | apply pw_below_drewN | apply below_drew1) | exact HB.out))) : w.heap.size ≤ gb101)); clear HO0_7; clear HO0_8; clear HB; have HO0_7 := n0_; have HO0_8 := n1_; have HB := n2_; have BK101 := n3_; have GW101 := n4_; have GE101 := n5_; clear n0_ n1_ n2_ n3_ n4_ n5_; clear hb hbox hg) | ((with_reducible refine gate_dst (N := 2) rfl ?_); refine box_event ?hg (N := 2) ?hd (cs := #[.int .i64 0, .int .u64 0, .int .u64 0, .int .u64 0, .int .u64 0, .slice none 0 0, .slice none 0 0, .slice none 0 0, .slice none 0 0]) (t := 72) ?hr ?_; (case hd => rfl); (case hg => rfl); (case hr => first | (go_simp; done) | (go_simp; rfl)); intro gb102 hg w5 hbox hb; have n0_ := Aside0.mk (Kd.V_below (Kd.V_elderB (by (with_reducible repeat (first | apply Kd.V_alloc | apply Kd.V_drewN | apply Kd.V_drew)); exact HO0_7.out) gb102 (Nat.le_of_eq hg.symm)) hb); have n1_ := Aside0.mk (Kd.V_below (Kd.V_elderB (by (with_reducible repeat (first | apply Kd.V_alloc | apply Kd.V_drewN | apply Kd.V_drew)); exact HO0_8.out) gb102 (Nat.le_of_eq hg.symm)) hb); have n2_ := Aside0.mk (blk_below (g := gb101) (o := .cells #[.int .i64 a0_0, .int .u64 a0_1, .int .u64 a0_2, .int .u64 a0_3, .int .u64 a0_4, .slice A0_5 l0_5.length c0_5, .slice A0_6 l0_6.length c0_6, .slice A0_7 l0_7.length c0_7, .slice A0_8 l0_8.length c0_8] 64 (0, 0)) (by (with_reducible repeat (first | refine blk_drewN ?_ _ | refine blk_drew ?_ | refine blk_alloc ?_ _)); exact BK101.out) hb); have n3_ := Aside0.mk (below_step (by repeat (first | (with_reducible first | exact HB.out | apply below_alloc | apply pw_below_drewN | apply below_drew1 | refine below_set ?_ GE101.out) | exact HB.out)) hb); have n4_ := Aside0.mk (hbox); have n5_ := Aside0.mk ((by rw [hg]; exact (below_size (by repeat (first | (with_reducible first | exact HB.out | apply below_alloc | apply pw_below_drewN | apply below_drew1 | refine below_set ?_ GE101.out) | exact HB.out))) : w.heap.size ≤ gb102)); have n6_ := Aside0.mk ((by rw [hg]; exact (below_size (by repeat (first | (with_reducible first | exact HB.out | apply below_alloc | apply pw_below_drewN | apply below_drew1 | refine below_set ?_ GE101.out) | exact HB.out))) : w.heap.size ≤ gb102)); have n7_ := Aside0.mk ((by rw [hg]; exact Nat.ne_of_lt (blk_lt (g := gb101) (o := .cells #[.int .i64 a0_0, .int .u64 a0_1, .int .u64 a0_2, .int .u64 a0_3, .int .u64 a0_4, .slice A0_5 l0_5.length c0_5, .slice A0_6 l0_6.length c0_6, .slice A0_7 l0_7.length c0_7, .slice A0_8 l0_8.length c0_8] 64 (0, 0)) (by (with_reducible repeat (first | refine blk_drewN ?_ _ | refine blk_drew ?_ | refine blk_alloc ?_ _)); exact BK101.out)) : gb101 ≠ gb102)); have n8_ := Aside0.mk ((by rw [hg]; exact Nat.ne_of_gt (blk_lt (g := gb101) (o := .cells #[.int .i64 a0_0, .int .u64 a0_1, .int .u64 a0_2, .int .u64 a0_3, .int .u64 a0_4, .slice A0_5 l0_5.length c0_5, .slice A0_6 l0_6.length c0_6, .slice A0_7 l0_7.length c0_7, .slice A0_8 l0_8.length c0_8] 64 (0, 0)) (by (with_reducible repeat (first | refine blk_drewN ?_ _ | refine blk_drew ?_ | refine blk_alloc ?_ _)); exact BK101.out)) : gb102 ≠ gb101)); clear HO0_7; clear HO0_8; clear BK101; clear HB; have HO0_7 := n0_; have HO0_8 := n1_; have BK101 := n2_; have HB := n3_; have BK102 := n4_; have GW102 := n5_; have GE102 := n6_; have NB101_102 := n7_; have NB102_101 := n8_; clear n0_ n1_ n2_ n3_ n4_ n5_ n6_ n7_ n8_; clear hb hbox hg))
 have n0_ := Aside0.mk (Kd.V_drew HO0_7.out)
 have n1_ := Aside0.mk (Kd.V_drew HO0_8.out)
 have n2_ := Aside0.mk (blk_drew BK101.out)
 have n3_ := Aside0.mk (blk_drew BK102.out)
 have n4_ := Aside0.mk (below_drew1 HB.out)
 clear HO0_7
 clear HO0_8
 clear BK101
 clear BK102
 clear HB
 have HO0_7 := n0_
 have HO0_8 := n1_
 have BK101 := n2_
 have BK102 := n3_
 have HB := n4_
 clear n0_ n1_ n2_ n3_ n4_
 refine start_ (n := 22) (S := fun w' => w'.cell? ⟨gb101, 0, none⟩ = some (.int .i64 a0_0) ∧ w'.cell? ⟨gb101, 1, none⟩ = some (.int .u64 a0_1) ∧ w'.cell? ⟨gb101, 2, none⟩ = some (.int .u64 a0_2) ∧ w'.cell? ⟨gb101, 3, none⟩ = some (.int .u64 a0_3) ∧ w'.cell? ⟨gb101, 4, none⟩ = some (.int .u64 a0_4) ∧ w'.cell? ⟨gb101, 5, none⟩ = some (.slice A0_5 l0_5.length c0_5) ∧ w'.cell? ⟨gb101, 6, none⟩ = some (.slice A0_6 l0_6.length c0_6) ∧ w'.cell? ⟨gb101, 7, none⟩ = some (.slice A0_7 l0_7.length c0_7) ∧ w'.cell? ⟨gb101, 8, none⟩ = some (.slice A0_8 l0_8.length c0_8)) (ds := []) #[false, false, false, false, false, false, false, false, false, false, false, false, false, false, false, false, false, false, false, false, false, false] (by kernel_rfl) rfl rfl ⟨(blk_cell BK101.out 0).trans rfl, (blk_cell BK101.out 1).trans rfl, (blk_cell BK101.out 2).trans rfl, (blk_cell BK101.out 3).trans rfl, (blk_cell BK101.out 4).trans rfl, (blk_cell BK101.out 5).trans rfl, (blk_cell BK101.out 6).trans rfl, (blk_cell BK101.out 7).trans rfl, (blk_cell BK101.out 8).trans rfl⟩ (fun hHeld => ?_); refine with_tabW tidepolelaw11_ints.tab1 tidepolelaw11_ints.bits1 (fun HT_ HW_ => ?_)
 generalize w5.drew = w6 at HO0_7 HO0_8 BK101 BK102 HB hHeld ⊢
 refine pure_ (i := 0) (N := some 3) (v := ?_) (a' := ?_) #[true, false, false, false, false, false, false, false, false, false, false, false, false, false, false, false, false, false, false, false, false, false] rfl rfl (any_of HT_.out (by kernel_rfl)) (fun _ _ _ h => h) (Or.inl ⟨by rfl, ?_⟩) ?_ ?_
 rotate_left
 ·intro w'
  go_simp
  with_reducible rfl
 rotate_left
 ·simp only [Act.put, List.setIfInBounds_toArray, List.set_cons_zero, List.set_cons_succ, i64_w, i32_w]
  rfl
 refine pure_ (i := 2) (N := some 5) (v := ?_) (a' := ?_) #[true, false, true, false, false, false, false, false, false, false, false, false, false, false, false, false, false, false, false, false, false, false] rfl rfl (any_of HT_.out (by kernel_rfl)) (fun _ _ _ h => h) (Or.inl ⟨by rfl, ?_⟩) ?_ ?_
 rotate_left
 ·intro w'
  go_simp
  with_reducible rfl
 rotate_left
 ·simp only [Act.put, List.setIfInBounds_toArray, List.set_cons_zero, List.set_cons_succ, i64_w, i32_w]
  rfl
 refine pure_ (i := 4) (N := some 7) (v := ?_) (a' := ?_) #[true, false, true, false, true, false, false, false, false, false, false, false, false, false, false, false, false, false, false, false, false, false] rfl rfl (any_of HT_.out (by kernel_rfl)) (fun _ _ _ h => h) (Or.inl ⟨by rfl, ?_⟩) ?_ ?_
 rotate_left
 ·intro w'
  go_simp
  with_reducible rfl
 rotate_left
 ·simp only [Act.put, List.setIfInBounds_toArray, List.set_cons_zero, List.set_cons_succ, i64_w, i32_w]
  rfl
 refine pure_ (i := 6) (N := some 9) (v := ?_) (a' := ?_) #[true, false, true, false, true, false, true, false, false, false, false, false, false, false, false, false, false, false, false, false, false, false] rfl rfl (any_of HT_.out (by kernel_rfl)) (fun _ _ _ h => h) (Or.inl ⟨by rfl, ?_⟩) ?_ ?_
 rotate_left
 ·intro w'
  go_simp
  with_reducible rfl
 rotate_left
 ·simp only [Act.put, List.setIfInBounds_toArray, List.set_cons_zero, List.set_cons_succ, i64_w, i32_w]
  rfl
 refine pure_ (i := 8) (N := some 11) (v := ?_) (a' := ?_) #[true, false, true, false, true, false, true, false, true, false, false, false, false, false, false, false, false, false, false, false, false, false] rfl rfl (any_of HT_.out (by kernel_rfl)) (fun _ _ _ h => h) (Or.inl ⟨by rfl, ?_⟩) ?_ ?_
 rotate_left
 ·intro w'
  go_simp
  with_reducible rfl
 rotate_left
 ·simp only [Act.put, List.setIfInBounds_toArray, List.set_cons_zero, List.set_cons_succ, i64_w, i32_w]
  rfl
 refine pure_ (i := 10) (N := some 13) (v := ?_) (a' := ?_) #[true, false, true, false, true, false, true, false, true, false, true, false, false, false, false, false, false, false, false, false, false, false] rfl rfl (any_of HT_.out (by kernel_rfl)) (fun _ _ _ h => h) (Or.inl ⟨by rfl, ?_⟩) ?_ ?_
 rotate_left
 ·intro w'
  go_simp
  with_reducible rfl
 rotate_left
 ·simp only [Act.put, List.setIfInBounds_toArray, List.set_cons_zero, List.set_cons_succ, i64_w, i32_w]
  rfl
 refine pure_ (i := 13) (N := some 16) (v := ?_) (a' := ?_) #[true, false, true, false, true, false, true, false, true, false, true, false, false, true, false, false, false, false, false, false, false, false] rfl rfl (any_of HT_.out (by kernel_rfl)) (fun _ _ _ h => h) (Or.inl ⟨by rfl, ?_⟩) ?_ ?_
 rotate_left
 ·intro w'
  go_simp
  with_reducible rfl
 rotate_left
 ·simp only [Act.put, List.setIfInBounds_toArray, List.set_cons_zero, List.set_cons_succ, i64_w, i32_w]
  rfl
 refine pure_ (i := 16) (N := some 19) (v := ?_) (a' := ?_) #[true, false, true, false, true, false, true, false, true, false, true, false, false, true, false, false, true, false, false, false, false, false] rfl rfl (any_of HT_.out (by kernel_rfl)) (fun _ _ _ h => h) (Or.inl ⟨by rfl, ?_⟩) ?_ ?_
 rotate_left
 ·intro w'
  go_simp
  with_reducible rfl
 rotate_left
 ·simp only [Act.put, List.setIfInBounds_toArray, List.set_cons_zero, List.set_cons_succ, i64_w, i32_w]
  rfl
 refine pure_ (i := 18) (N := some 21) (v := ?_) (a' := ?_) #[true, false, true, false, true, false, true, false, true, false, true, false, false, true, false, false, true, false, true, false, false, false] rfl rfl (any_of HT_.out (by kernel_rfl)) (fun _ _ _ h => h) (Or.inl ⟨by rfl, ?_⟩) ?_ ?_
 rotate_left
 ·intro w'
  go_simp
  with_reducible rfl
 rotate_left
 ·simp only [Act.put, List.setIfInBounds_toArray, List.set_cons_zero, List.set_cons_succ, i64_w, i32_w]
  rfl
 refine take_ (i := 1) (N := some 4) (v := ?_) (a' := ?_) #[true, true, true, false, true, false, true, false, true, false, true, false, false, true, false, false, true, false, true, false, false, false] rfl rfl (take_ofW HT_.out HW_.out (by kernel_rfl)) (fun _ _ _ h => h) (Or.inl ⟨by rfl, ?_⟩) hHeld ?_ ?_
 rotate_left
 ·rintro w' ⟨s0, s1, s2, s3, s4, s5, s6, s7, s8⟩
  go_simp
  with_reducible rfl
 rotate_left
 ·simp only [Act.put, List.setIfInBounds_toArray, List.set_cons_zero, List.set_cons_succ, i64_w, i32_w]
  rfl
 refine take_ (i := 3) (N := some 6) (v := ?_) (a' := ?_) #[true, true, true, true, true, false, true, false, true, false, true, false, false, true, false, false, true, false, true, false, false, false] rfl rfl (take_ofW HT_.out HW_.out (by kernel_rfl)) (fun _ _ _ h => h) (Or.inl ⟨by rfl, ?_⟩) hHeld ?_ ?_
 rotate_left
 ·rintro w' ⟨s0, s1, s2, s3, s4, s5, s6, s7, s8⟩
  go_simp
  with_reducible rfl
 rotate_left
 ·simp only [Act.put, List.setIfInBounds_toArray, List.set_cons_zero, List.set_cons_succ, i64_w, i32_w]
  rfl
 refine take_ (i := 5) (N := some 8) (v := ?_) (a' := ?_) #[true, true, true, true, true, true, true, false, true, false, true, false, false, true, false, false, true, false, true, false, false, false] rfl rfl (take_ofW HT_.out HW_.out (by kernel_rfl)) (fun _ _ _ h => h) (Or.inl ⟨by rfl, ?_⟩) hHeld ?_ ?_
 rotate_left
 ·rintro w' ⟨s0, s1, s2, s3, s4, s5, s6, s7, s8⟩
  go_simp
  with_reducible rfl
 rotate_left
 ·simp only [Act.put, List.setIfInBounds_toArray, List.set_cons_zero, List.set_cons_succ, i64_w, i32_w]
  rfl
 refine take_ (i := 7) (N := some 10) (v := ?_) (a' := ?_) #[true, true, true, true, true, true, true, true, true, false, true, false, false, true, false, false, true, false, true, false, false, false] rfl rfl (take_ofW HT_.out HW_.out (by kernel_rfl)) (fun _ _ _ h => h) (Or.inl ⟨by rfl, ?_⟩) hHeld ?_ ?_
 rotate_left
 ·rintro w' ⟨s0, s1, s2, s3, s4, s5, s6, s7, s8⟩
  go_simp
  with_reducible rfl
 rotate_left
 ·simp only [Act.put, List.setIfInBounds_toArray, List.set_cons_zero, List.set_cons_succ, i64_w, i32_w]
  rfl
 refine take_ (i := 9) (N := some 12) (v := ?_) (a' := ?_) #[true, true, true, true, true, true, true, true, true, true, true, false, false, true, false, false, true, false, true, false, false, false] rfl rfl (take_ofW HT_.out HW_.out (by kernel_rfl)) (fun _ _ _ h => h) (Or.inl ⟨by rfl, ?_⟩) hHeld ?_ ?_
 rotate_left
 ·rintro w' ⟨s0, s1, s2, s3, s4, s5, s6, s7, s8⟩
  go_simp
  with_reducible rfl
 rotate_left
 ·simp only [Act.put, List.setIfInBounds_toArray, List.set_cons_zero, List.set_cons_succ, i64_w, i32_w]
  rfl
 refine take_ (i := 11) (N := some 14) (v := ?_) (a' := ?_) #[true, true, true, true, true, true, true, true, true, true, true, true, false, true, false, false, true, false, true, false, false, false] rfl rfl (take_ofW HT_.out HW_.out (by kernel_rfl)) (fun _ _ _ h => h) (Or.inl ⟨by rfl, ?_⟩) hHeld ?_ ?_
 rotate_left
 ·rintro w' ⟨s0, s1, s2, s3, s4, s5, s6, s7, s8⟩
  go_simp
  with_reducible rfl
 rotate_left
 ·simp only [Act.put, List.setIfInBounds_toArray, List.set_cons_zero, List.set_cons_succ, i64_w, i32_w]
  rfl
 refine take_ (i := 14) (N := some 17) (v := ?_) (a' := ?_) #[true, true, true, true, true, true, true, true, true, true, true, true, false, true, true, false, true, false, true, false, false, false] rfl rfl (take_ofW HT_.out HW_.out (by kernel_rfl)) (fun _ _ _ h => h) (Or.inl ⟨by rfl, ?_⟩) hHeld ?_ ?_
 rotate_left
 ·rintro w' ⟨s0, s1, s2, s3, s4, s5, s6, s7, s8⟩
  go_simp
  with_reducible rfl
 rotate_left
 ·simp only [Act.put, List.setIfInBounds_toArray, List.set_cons_zero, List.set_cons_succ, i64_w, i32_w]
  rfl
 refine take_ (i := 17) (N := some 20) (v := ?_) (a' := ?_) #[true, true, true, true, true, true, true, true, true, true, true, true, false, true, true, false, true, true, true, false, false, false] rfl rfl (take_ofW HT_.out HW_.out (by kernel_rfl)) (fun _ _ _ h => h) (Or.inl ⟨by rfl, ?_⟩) hHeld ?_ ?_
 rotate_left
 ·rintro w' ⟨s0, s1, s2, s3, s4, s5, s6, s7, s8⟩
  go_simp
  with_reducible rfl
 rotate_left
 ·simp only [Act.put, List.setIfInBounds_toArray, List.set_cons_zero, List.set_cons_succ, i64_w, i32_w]
  rfl
 refine take_ (i := 19) (N := some 22) (v := ?_) (a' := ?_) #[true, true, true, true, true, true, true, true, true, true, true, true, false, true, true, false, true, true, true, true, false, false] rfl rfl (take_ofW HT_.out HW_.out (by kernel_rfl)) (fun _ _ _ h => h) (Or.inl ⟨by rfl, ?_⟩) hHeld ?_ ?_
 rotate_left
 ·rintro w' ⟨s0, s1, s2, s3, s4, s5, s6, s7, s8⟩
  go_simp
  with_reducible rfl
 rotate_left
 ·simp only [Act.put, List.setIfInBounds_toArray, List.set_cons_zero, List.set_cons_succ, i64_w, i32_w]
  rfl
 refine one_ (i := 12) (N := some 15) #[true, true, true, true, true, true, true, true, true, true, true, true, true, true, true, false, true, true, true, true, false, false] rfl rfl (one_of HT_.out (by kernel_rfl)) (by decide) (fun K hK => ?_)
 refine goes_ Try.func139 (by kernel_rfl) rfl #[.slice A0_5 l0_5.length c0_5] (by rfl) rfl rfl (by (try simp only [List.map_toArray, List.map_cons, List.map_nil]); first | done | rfl | (simp only [List.length_drop, List.length_take]; rfl)) ?_
 with_reducible refine (tidepolelaw11_spans.calls k _ _ l0_5 t103 _ ?side1 ?side2 A2.out).mono ?_
 (case side1 => repeat (first | exact (Kd.C_below HR0_5.out HB.out) | (with_reducible refine Kd.C_alloc ?_ _) | (with_reducible refine Kd.C_drewN ?_ _) | (with_reducible refine Kd.C_drew ?_)))
 (case side2 => exact HC0_5.out)
 rintro e w7 ⟨v104, rfl, ho0, hb⟩
 refine ⟨_, rfl, ?_⟩
 have n0_ := Aside0.mk (Kd.V_elder' (by (with_reducible repeat (first | apply Kd.V_alloc | apply Kd.V_drewN | apply Kd.V_drew)); exact HO0_7.out) (Kd.R_base ho0) hb)
 have n1_ := Aside0.mk (Kd.V_elder' (by (with_reducible repeat (first | apply Kd.V_alloc | apply Kd.V_drewN | apply Kd.V_drew)); exact HO0_8.out) (Kd.R_base ho0) hb)
 have n2_ := Aside0.mk (Kd.R_lower (Kd.R_newM (M := fun k_ => (w.heap.size ≤ k_)) ho0 (below_size (by repeat (first | (with_reducible first | exact HB.out | apply below_alloc | apply pw_below_drewN | apply below_drew1 | refine below_set ?_ GE101.out | refine below_set ?_ GE102.out) | exact HB.out))) (fun k_ h_ => h_)) (below_size (by repeat (first | (with_reducible first | exact HB.out | apply below_alloc | apply pw_below_drewN | apply below_drew1 | refine below_set ?_ GE101.out | refine below_set ?_ GE102.out) | exact HB.out))))
 have n3_ := Aside0.mk (blk_below (g := gb101) (o := .cells #[.int .i64 a0_0, .int .u64 a0_1, .int .u64 a0_2, .int .u64 a0_3, .int .u64 a0_4, .slice A0_5 l0_5.length c0_5, .slice A0_6 l0_6.length c0_6, .slice A0_7 l0_7.length c0_7, .slice A0_8 l0_8.length c0_8] 64 (0, 0)) (by (with_reducible repeat (first | refine blk_drewN ?_ _ | refine blk_drew ?_ | refine blk_alloc ?_ _)); exact BK101.out) hb)
 have n4_ := Aside0.mk (blk_below (g := gb102) (o := .cells #[.int .i64 0, .int .u64 0, .int .u64 0, .int .u64 0, .int .u64 0, .slice none 0 0, .slice none 0 0, .slice none 0 0, .slice none 0 0] 72 (0, 0)) (by (with_reducible repeat (first | refine blk_drewN ?_ _ | refine blk_drew ?_ | refine blk_alloc ?_ _)); exact BK102.out) hb)
 have n5_ := Aside0.mk (below_step (by repeat (first | (with_reducible first | exact HB.out | apply below_alloc | apply pw_below_drewN | apply below_drew1 | refine below_set ?_ GE101.out | refine below_set ?_ GE102.out) | exact HB.out)) hb)
 clear HO0_7
 clear HO0_8
 clear BK101
 clear BK102
 clear HB
 have HO0_7 := n0_
 have HO0_8 := n1_
 have HO105 := n2_
 have BK101 := n3_
 have BK102 := n4_
 have HB := n5_
 clear n0_ n1_ n2_ n3_ n4_ n5_
 (try clear hb)
 (try clear hb2)
 (try clear hk)
 (try clear hi)
 (try clear ho0)
 refine hK.out _ _ ⟨(blk_cell BK101.out 0).trans rfl, (blk_cell BK101.out 1).trans rfl, (blk_cell BK101.out 2).trans rfl, (blk_cell BK101.out 3).trans rfl, (blk_cell BK101.out 4).trans rfl, (blk_cell BK101.out 5).trans rfl, (blk_cell BK101.out 6).trans rfl, (blk_cell BK101.out 7).trans rfl, (blk_cell BK101.out 8).trans rfl⟩ (fun hHeld => ?_)
 clear hK K
 refine norm_ (a' := ?_) ?_ ?_
 rotate_left
 ·show Act.put _ (some 15) _ = _
  simp only [Act.put, List.setIfInBounds_toArray, List.set_cons_zero, List.set_cons_succ, i64_w, i32_w]
  rfl
 refine one_ (i := 15) (N := some 18) #[true, true, true, true, true, true, true, true, true, true, true, true, true, true, true, true, true, true, true, true, false, false] rfl rfl (one_of HT_.out (by kernel_rfl)) (by decide) (fun K hK => ?_)
 refine goes_ Try.func139 (by kernel_rfl) rfl #[.slice A0_6 l0_6.length c0_6] (by rfl) rfl rfl (by (try simp only [List.map_toArray, List.map_cons, List.map_nil]); first | done | rfl | (simp only [List.length_drop, List.length_take]; rfl)) ?_
 with_reducible refine (tidepolelaw11_spans.calls k _ _ l0_6 t106 _ ?side1 ?side2 A3.out).mono ?_
 (case side1 => repeat (first | exact (Kd.C_below HR0_6.out HB.out) | (with_reducible refine Kd.C_alloc ?_ _) | (with_reducible refine Kd.C_drewN ?_ _) | (with_reducible refine Kd.C_drew ?_)))
 (case side2 => exact HC0_6.out)
 rintro e w8 ⟨v107, rfl, ho0, hb⟩
 refine ⟨_, rfl, ?_⟩
 have n0_ := Aside0.mk (Kd.V_elder' (by (with_reducible repeat (first | apply Kd.V_alloc | apply Kd.V_drewN | apply Kd.V_drew)); exact HO0_7.out) (Kd.R_base ho0) hb)
 have n1_ := Aside0.mk (Kd.V_elder' (by (with_reducible repeat (first | apply Kd.V_alloc | apply Kd.V_drewN | apply Kd.V_drew)); exact HO0_8.out) (Kd.R_base ho0) hb)
 have n2_ := Aside0.mk (Kd.R_elder' (by (with_reducible repeat (first | apply Kd.R_alloc | apply Kd.R_drewN | apply Kd.R_drew)); exact HO105.out) (Kd.R_base ho0) hb)
 have n3_ := Aside0.mk (Kd.R_lower (Kd.R_new' (Kd.R_newM (M := fun k_ => (w.heap.size ≤ k_)) ho0 (below_size (by repeat (first | (with_reducible first | exact HB.out | apply below_alloc | apply pw_below_drewN | apply below_drew1 | refine below_set ?_ GE101.out | refine below_set ?_ GE102.out) | exact HB.out))) (fun k_ h_ => h_)) (Kd.R_lt (by (with_reducible repeat (first | apply Kd.R_alloc | apply Kd.R_drewN | apply Kd.R_drew)); exact HO105.out))) (below_size (by repeat (first | (with_reducible first | exact HB.out | apply below_alloc | apply pw_below_drewN | apply below_drew1 | refine below_set ?_ GE101.out | refine below_set ?_ GE102.out) | exact HB.out))))
 have n4_ := Aside0.mk (blk_below (g := gb101) (o := .cells #[.int .i64 a0_0, .int .u64 a0_1, .int .u64 a0_2, .int .u64 a0_3, .int .u64 a0_4, .slice A0_5 l0_5.length c0_5, .slice A0_6 l0_6.length c0_6, .slice A0_7 l0_7.length c0_7, .slice A0_8 l0_8.length c0_8] 64 (0, 0)) (by (with_reducible repeat (first | refine blk_drewN ?_ _ | refine blk_drew ?_ | refine blk_alloc ?_ _)); exact BK101.out) hb)
 have n5_ := Aside0.mk (blk_below (g := gb102) (o := .cells #[.int .i64 0, .int .u64 0, .int .u64 0, .int .u64 0, .int .u64 0, .slice none 0 0, .slice none 0 0, .slice none 0 0, .slice none 0 0] 72 (0, 0)) (by (with_reducible repeat (first | refine blk_drewN ?_ _ | refine blk_drew ?_ | refine blk_alloc ?_ _)); exact BK102.out) hb)
 have n6_ := Aside0.mk (below_step (by repeat (first | (with_reducible first | exact HB.out | apply below_alloc | apply pw_below_drewN | apply below_drew1 | refine below_set ?_ GE101.out | refine below_set ?_ GE102.out) | exact HB.out)) hb)
 clear HO0_7
 clear HO0_8
 clear HO105
 clear BK101
 clear BK102
 clear HB
 have HO0_7 := n0_
 have HO0_8 := n1_
 have HO105 := n2_
 have HO108 := n3_
 have BK101 := n4_
 have BK102 := n5_
 have HB := n6_
 clear n0_ n1_ n2_ n3_ n4_ n5_ n6_
 (try clear hb)
 (try clear hb2)
 (try clear hk)
 (try clear hi)
 (try clear ho0)
 obtain ⟨Ao9, co9, eo9⟩ := Kd.R_slice HO108.out
 (first | subst eo9 | (injection eo9 with f1_ f2_ f3_; have f4_ := f1_.symm; have f5_ := f3_.symm; clear f1_ f2_ f3_; subst f4_; subst f5_))
 obtain ⟨Ao10, co10, eo10⟩ := Kd.R_slice HO105.out
 (first | subst eo10 | (injection eo10 with f1_ f2_ f3_; have f4_ := f1_.symm; have f5_ := f3_.symm; clear f1_ f2_ f3_; subst f4_; subst f5_))
 refine hK.out _ _ ⟨(blk_cell BK101.out 0).trans rfl, (blk_cell BK101.out 1).trans rfl, (blk_cell BK101.out 2).trans rfl, (blk_cell BK101.out 3).trans rfl, (blk_cell BK101.out 4).trans rfl, (blk_cell BK101.out 5).trans rfl, (blk_cell BK101.out 6).trans rfl, (blk_cell BK101.out 7).trans rfl, (blk_cell BK101.out 8).trans rfl⟩ (fun hHeld => ?_)
 clear hK K
 refine norm_ (a' := ?_) ?_ ?_
 rotate_left
 ·show Act.put _ (some 18) _ = _
  simp only [Act.put, List.setIfInBounds_toArray, List.set_cons_zero, List.set_cons_succ, i64_w, i32_w]
  rfl
 refine pure_ (i := 20) (N := some 23) (v := ?_) (a' := ?_) #[true, true, true, true, true, true, true, true, true, true, true, true, true, true, true, true, true, true, true, true, true, false] rfl rfl (any_of HT_.out (by kernel_rfl)) (fun _ _ _ h => h) (Or.inl ⟨by rfl, ?_⟩) ?_ ?_
 rotate_left
 ·intro w'
  go_simp
  with_reducible rfl
 rotate_left
 ·simp only [Act.put, List.setIfInBounds_toArray, List.set_cons_zero, List.set_cons_succ, i64_w, i32_w]
  rfl
 refine one_ (i := 21) (N := none) #[true, true, true, true, true, true, true, true, true, true, true, true, true, true, true, true, true, true, true, true, true, true] rfl rfl (one_of HT_.out (by kernel_rfl)) (by decide) (fun K hK => ?_)
 have hs11 : w8.cell? ⟨gb102, 0, none⟩ = some (.int .i64 0) := (blk_cell BK102.out 0).trans rfl
 have hfs11 := blk_frozen BK102.out 0
 have hns11_0 := NB101_102.out
 have hms11_0 := NB102_101.out
 have hs12 : w8.cell? ⟨gb102, 1, none⟩ = some (.int .u64 0) := (blk_cell BK102.out 1).trans rfl
 have hfs12 := blk_frozen BK102.out 1
 have hns12_0 := NB101_102.out
 have hms12_0 := NB102_101.out
 have hs13 : w8.cell? ⟨gb102, 2, none⟩ = some (.int .u64 0) := (blk_cell BK102.out 2).trans rfl
 have hfs13 := blk_frozen BK102.out 2
 have hns13_0 := NB101_102.out
 have hms13_0 := NB102_101.out
 have hs14 : w8.cell? ⟨gb102, 3, none⟩ = some (.int .u64 0) := (blk_cell BK102.out 3).trans rfl
 have hfs14 := blk_frozen BK102.out 3
 have hns14_0 := NB101_102.out
 have hms14_0 := NB102_101.out
 have hs15 : w8.cell? ⟨gb102, 4, none⟩ = some (.int .u64 0) := (blk_cell BK102.out 4).trans rfl
 have hfs15 := blk_frozen BK102.out 4
 have hns15_0 := NB101_102.out
 have hms15_0 := NB102_101.out
 have hs16 : w8.cell? ⟨gb102, 5, none⟩ = some (.slice none 0 0) := (blk_cell BK102.out 5).trans rfl
 have hfs16 := blk_frozen BK102.out 5
 have hns16_0 := NB101_102.out
 have hms16_0 := NB102_101.out
 have hs17 : w8.cell? ⟨gb102, 6, none⟩ = some (.slice none 0 0) := (blk_cell BK102.out 6).trans rfl
 have hfs17 := blk_frozen BK102.out 6
 have hns17_0 := NB101_102.out
 have hms17_0 := NB102_101.out
 have hs18 : w8.cell? ⟨gb102, 7, none⟩ = some (.slice none 0 0) := (blk_cell BK102.out 7).trans rfl
 have hfs18 := blk_frozen BK102.out 7
 have hns18_0 := NB101_102.out
 have hms18_0 := NB102_101.out
 have hs19 : w8.cell? ⟨gb102, 8, none⟩ = some (.slice none 0 0) := (blk_cell BK102.out 8).trans rfl
 have hfs19 := blk_frozen BK102.out 8
 have hns19_0 := NB101_102.out
 have hms19_0 := NB102_101.out
 refine skip_ (w1 := ?_) (by rfl) rfl ?_ ?_
 rotate_left
 ·go_simp
  rfl
 refine hK.out _ _ ⟨((cell_far (p := ⟨gb102, _, none⟩) NB101_102.out _).trans (((cell_far (p := ⟨gb102, _, none⟩) NB101_102.out _).trans (((cell_far (p := ⟨gb102, _, none⟩) NB101_102.out _).trans (((cell_far (p := ⟨gb102, _, none⟩) NB101_102.out _).trans (((cell_far (p := ⟨gb102, _, none⟩) NB101_102.out _).trans (((cell_far (p := ⟨gb102, _, none⟩) NB101_102.out _).trans (((cell_far (p := ⟨gb102, _, none⟩) NB101_102.out _).trans (((cell_far (p := ⟨gb102, _, none⟩) NB101_102.out _).trans (((cell_far (p := ⟨gb102, _, none⟩) NB101_102.out _).trans (hHeld.1)))))))))))))))))), ((cell_far (p := ⟨gb102, _, none⟩) NB101_102.out _).trans (((cell_far (p := ⟨gb102, _, none⟩) NB101_102.out _).trans (((cell_far (p := ⟨gb102, _, none⟩) NB101_102.out _).trans (((cell_far (p := ⟨gb102, _, none⟩) NB101_102.out _).trans (((cell_far (p := ⟨gb102, _, none⟩) NB101_102.out _).trans (((cell_far (p := ⟨gb102, _, none⟩) NB101_102.out _).trans (((cell_far (p := ⟨gb102, _, none⟩) NB101_102.out _).trans (((cell_far (p := ⟨gb102, _, none⟩) NB101_102.out _).trans (((cell_far (p := ⟨gb102, _, none⟩) NB101_102.out _).trans (hHeld.2.1)))))))))))))))))), ((cell_far (p := ⟨gb102, _, none⟩) NB101_102.out _).trans (((cell_far (p := ⟨gb102, _, none⟩) NB101_102.out _).trans (((cell_far (p := ⟨gb102, _, none⟩) NB101_102.out _).trans (((cell_far (p := ⟨gb102, _, none⟩) NB101_102.out _).trans (((cell_far (p := ⟨gb102, _, none⟩) NB101_102.out _).trans (((cell_far (p := ⟨gb102, _, none⟩) NB101_102.out _).trans (((cell_far (p := ⟨gb102, _, none⟩) NB101_102.out _).trans (((cell_far (p := ⟨gb102, _, none⟩) NB101_102.out _).trans (((cell_far (p := ⟨gb102, _, none⟩) NB101_102.out _).trans (hHeld.2.2.1)))))))))))))))))), ((cell_far (p := ⟨gb102, _, none⟩) NB101_102.out _).trans (((cell_far (p := ⟨gb102, _, none⟩) NB101_102.out _).trans (((cell_far (p := ⟨gb102, _, none⟩) NB101_102.out _).trans (((cell_far (p := ⟨gb102, _, none⟩) NB101_102.out _).trans (((cell_far (p := ⟨gb102, _, none⟩) NB101_102.out _).trans (((cell_far (p := ⟨gb102, _, none⟩) NB101_102.out _).trans (((cell_far (p := ⟨gb102, _, none⟩) NB101_102.out _).trans (((cell_far (p := ⟨gb102, _, none⟩) NB101_102.out _).trans (((cell_far (p := ⟨gb102, _, none⟩) NB101_102.out _).trans (hHeld.2.2.2.1)))))))))))))))))), ((cell_far (p := ⟨gb102, _, none⟩) NB101_102.out _).trans (((cell_far (p := ⟨gb102, _, none⟩) NB101_102.out _).trans (((cell_far (p := ⟨gb102, _, none⟩) NB101_102.out _).trans (((cell_far (p := ⟨gb102, _, none⟩) NB101_102.out _).trans (((cell_far (p := ⟨gb102, _, none⟩) NB101_102.out _).trans (((cell_far (p := ⟨gb102, _, none⟩) NB101_102.out _).trans (((cell_far (p := ⟨gb102, _, none⟩) NB101_102.out _).trans (((cell_far (p := ⟨gb102, _, none⟩) NB101_102.out _).trans (((cell_far (p := ⟨gb102, _, none⟩) NB101_102.out _).trans (hHeld.2.2.2.2.1)))))))))))))))))), ((cell_far (p := ⟨gb102, _, none⟩) NB101_102.out _).trans (((cell_far (p := ⟨gb102, _, none⟩) NB101_102.out _).trans (((cell_far (p := ⟨gb102, _, none⟩) NB101_102.out _).trans (((cell_far (p := ⟨gb102, _, none⟩) NB101_102.out _).trans (((cell_far (p := ⟨gb102, _, none⟩) NB101_102.out _).trans (((cell_far (p := ⟨gb102, _, none⟩) NB101_102.out _).trans (((cell_far (p := ⟨gb102, _, none⟩) NB101_102.out _).trans (((cell_far (p := ⟨gb102, _, none⟩) NB101_102.out _).trans (((cell_far (p := ⟨gb102, _, none⟩) NB101_102.out _).trans (hHeld.2.2.2.2.2.1)))))))))))))))))), ((cell_far (p := ⟨gb102, _, none⟩) NB101_102.out _).trans (((cell_far (p := ⟨gb102, _, none⟩) NB101_102.out _).trans (((cell_far (p := ⟨gb102, _, none⟩) NB101_102.out _).trans (((cell_far (p := ⟨gb102, _, none⟩) NB101_102.out _).trans (((cell_far (p := ⟨gb102, _, none⟩) NB101_102.out _).trans (((cell_far (p := ⟨gb102, _, none⟩) NB101_102.out _).trans (((cell_far (p := ⟨gb102, _, none⟩) NB101_102.out _).trans (((cell_far (p := ⟨gb102, _, none⟩) NB101_102.out _).trans (((cell_far (p := ⟨gb102, _, none⟩) NB101_102.out _).trans (hHeld.2.2.2.2.2.2.1)))))))))))))))))), ((cell_far (p := ⟨gb102, _, none⟩) NB101_102.out _).trans (((cell_far (p := ⟨gb102, _, none⟩) NB101_102.out _).trans (((cell_far (p := ⟨gb102, _, none⟩) NB101_102.out _).trans (((cell_far (p := ⟨gb102, _, none⟩) NB101_102.out _).trans (((cell_far (p := ⟨gb102, _, none⟩) NB101_102.out _).trans (((cell_far (p := ⟨gb102, _, none⟩) NB101_102.out _).trans (((cell_far (p := ⟨gb102, _, none⟩) NB101_102.out _).trans (((cell_far (p := ⟨gb102, _, none⟩) NB101_102.out _).trans (((cell_far (p := ⟨gb102, _, none⟩) NB101_102.out _).trans (hHeld.2.2.2.2.2.2.2.1)))))))))))))))))), ((cell_far (p := ⟨gb102, _, none⟩) NB101_102.out _).trans (((cell_far (p := ⟨gb102, _, none⟩) NB101_102.out _).trans (((cell_far (p := ⟨gb102, _, none⟩) NB101_102.out _).trans (((cell_far (p := ⟨gb102, _, none⟩) NB101_102.out _).trans (((cell_far (p := ⟨gb102, _, none⟩) NB101_102.out _).trans (((cell_far (p := ⟨gb102, _, none⟩) NB101_102.out _).trans (((cell_far (p := ⟨gb102, _, none⟩) NB101_102.out _).trans (((cell_far (p := ⟨gb102, _, none⟩) NB101_102.out _).trans (((cell_far (p := ⟨gb102, _, none⟩) NB101_102.out _).trans (hHeld.2.2.2.2.2.2.2.2))))))))))))))))))⟩ (fun hHeld => ?_)
 clear hK K
 refine done_ (done_of HT_.out (by kernel_rfl)) ?_
 try go_wp2
 refine bodyPost_ret (results_cell_row rfl _ _ gb102 72 #[.int .i64 a0_0, .int .u64 a0_1, .int .u64 a0_2, .int .u64 a0_3, .int .u64 a0_4, .slice Ao10 t103.length co10, .slice Ao9 t106.length co9, .slice A0_7 l0_7.length c0_7, .slice A0_8 l0_8.length c0_8] (0, 0) _ rfl (by (with_reducible repeat (first | refine blk_drewN ?_ _ | refine blk_drew ?_ | refine blk_alloc ?_ _)); refine blk_put (cs := #[.int .i64 a0_0, .int .u64 a0_1, .int .u64 a0_2, .int .u64 a0_3, .int .u64 a0_4, .slice Ao10 t103.length co10, .slice Ao9 t106.length co9, .slice A0_7 l0_7.length c0_7, .slice none 0 0]) ?_ 8 _ rfl; (with_reducible repeat (first | refine blk_drewN ?_ _ | refine blk_drew ?_ | refine blk_alloc ?_ _)); refine blk_put (cs := #[.int .i64 a0_0, .int .u64 a0_1, .int .u64 a0_2, .int .u64 a0_3, .int .u64 a0_4, .slice Ao10 t103.length co10, .slice Ao9 t106.length co9, .slice none 0 0, .slice none 0 0]) ?_ 7 _ rfl; (with_reducible repeat (first | refine blk_drewN ?_ _ | refine blk_drew ?_ | refine blk_alloc ?_ _)); refine blk_put (cs := #[.int .i64 a0_0, .int .u64 a0_1, .int .u64 a0_2, .int .u64 a0_3, .int .u64 a0_4, .slice Ao10 t103.length co10, .slice none 0 0, .slice none 0 0, .slice none 0 0]) ?_ 6 _ rfl; (with_reducible repeat (first | refine blk_drewN ?_ _ | refine blk_drew ?_ | refine blk_alloc ?_ _)); refine blk_put (cs := #[.int .i64 a0_0, .int .u64 a0_1, .int .u64 a0_2, .int .u64 a0_3, .int .u64 a0_4, .slice none 0 0, .slice none 0 0, .slice none 0 0, .slice none 0 0]) ?_ 5 _ rfl; (with_reducible repeat (first | refine blk_drewN ?_ _ | refine blk_drew ?_ | refine blk_alloc ?_ _)); refine blk_put (cs := #[.int .i64 a0_0, .int .u64 a0_1, .int .u64 a0_2, .int .u64 a0_3, .int .u64 0, .slice none 0 0, .slice none 0 0, .slice none 0 0, .slice none 0 0]) ?_ 4 _ rfl; (with_reducible repeat (first | refine blk_drewN ?_ _ | refine blk_drew ?_ | refine blk_alloc ?_ _)); refine blk_put (cs := #[.int .i64 a0_0, .int .u64 a0_1, .int .u64 a0_2, .int .u64 0, .int .u64 0, .slice none 0 0, .slice none 0 0, .slice none 0 0, .slice none 0 0]) ?_ 3 _ rfl; (with_reducible repeat (first | refine blk_drewN ?_ _ | refine blk_drew ?_ | refine blk_alloc ?_ _)); refine blk_put (cs := #[.int .i64 a0_0, .int .u64 a0_1, .int .u64 0, .int .u64 0, .int .u64 0, .slice none 0 0, .slice none 0 0, .slice none 0 0, .slice none 0 0]) ?_ 2 _ rfl; (with_reducible repeat (first | refine blk_drewN ?_ _ | refine blk_drew ?_ | refine blk_alloc ?_ _)); refine blk_put (cs := #[.int .i64 a0_0, .int .u64 0, .int .u64 0, .int .u64 0, .int .u64 0, .slice none 0 0, .slice none 0 0, .slice none 0 0, .slice none 0 0]) ?_ 1 _ rfl; (with_reducible repeat (first | refine blk_drewN ?_ _ | refine blk_drew ?_ | refine blk_alloc ?_ _)); refine blk_put (cs := #[.int .i64 0, .int .u64 0, .int .u64 0, .int .u64 0, .int .u64 0, .slice none 0 0, .slice none 0 0, .slice none 0 0, .slice none 0 0]) ?_ 0 _ rfl; (with_reducible repeat (first | refine blk_drewN ?_ _ | refine blk_drew ?_ | refine blk_alloc ?_ _)); exact BK102.out) Try.underlying72 rfl (by kernel_rfl)) rfl ?_
 exact ⟨_, _, _, _, by first | rfl | (simp [errW_none, errW_some] <;> rfl) | (simp [*, errW_none, errW_some] <;> rfl), by (with_reducible repeat (first | apply Kd.R_alloc | apply Kd.R_drewN | apply Kd.R_drew)); exact Kd.R_mono (Kd.R_far (p := ⟨gb102, 8, none⟩) (Kd.R_far (p := ⟨gb102, 7, none⟩) (Kd.R_far (p := ⟨gb102, 6, none⟩) (Kd.R_far (p := ⟨gb102, 5, none⟩) (Kd.R_far (p := ⟨gb102, 4, none⟩) (Kd.R_far (p := ⟨gb102, 3, none⟩) (Kd.R_far (p := ⟨gb102, 2, none⟩) (Kd.R_far (p := ⟨gb102, 1, none⟩) (Kd.R_far (p := ⟨gb102, 0, none⟩) (Kd.R_types HO105.out BK102.out (by decide)) (fun _ hk => hk.2) (.int .i64 a0_0)) (fun _ hk => hk.2) (.int .u64 a0_1)) (fun _ hk => hk.2) (.int .u64 a0_2)) (fun _ hk => hk.2) (.int .u64 a0_3)) (fun _ hk => hk.2) (.int .u64 a0_4)) (fun _ hk => hk.2) (.slice Ao10 t103.length co10)) (fun _ hk => hk.2) (.slice Ao9 t106.length co9)) (fun _ hk => hk.2) (.slice A0_7 l0_7.length c0_7)) (fun _ hk => hk.2) (.slice A0_8 l0_8.length c0_8)) (fun _ hk => ⟨hk.1.1.1, hk.1.2⟩), by (with_reducible repeat (first | apply Kd.R_alloc | apply Kd.R_drewN | apply Kd.R_drew)); exact Kd.R_mono (Kd.R_far (p := ⟨gb102, 8, none⟩) (Kd.R_far (p := ⟨gb102, 7, none⟩) (Kd.R_far (p := ⟨gb102, 6, none⟩) (Kd.R_far (p := ⟨gb102, 5, none⟩) (Kd.R_far (p := ⟨gb102, 4, none⟩) (Kd.R_far (p := ⟨gb102, 3, none⟩) (Kd.R_far (p := ⟨gb102, 2, none⟩) (Kd.R_far (p := ⟨gb102, 1, none⟩) (Kd.R_far (p := ⟨gb102, 0, none⟩) (Kd.R_types HO108.out BK102.out (by decide)) (fun _ hk => hk.2) (.int .i64 a0_0)) (fun _ hk => hk.2) (.int .u64 a0_1)) (fun _ hk => hk.2) (.int .u64 a0_2)) (fun _ hk => hk.2) (.int .u64 a0_3)) (fun _ hk => hk.2) (.int .u64 a0_4)) (fun _ hk => hk.2) (.slice Ao10 t103.length co10)) (fun _ hk => hk.2) (.slice Ao9 t106.length co9)) (fun _ hk => hk.2) (.slice A0_7 l0_7.length c0_7)) (fun _ hk => hk.2) (.slice A0_8 l0_8.length c0_8)) (fun _ hk => ⟨hk.1.1.1, hk.1.2⟩), by (with_reducible repeat (first | apply Kd.V_alloc | apply Kd.V_drewN | apply Kd.V_drew)); exact Kd.V_mono (Kd.V_far (p := ⟨gb102, 8, none⟩) (Kd.V_far (p := ⟨gb102, 7, none⟩) (Kd.V_far (p := ⟨gb102, 6, none⟩) (Kd.V_far (p := ⟨gb102, 5, none⟩) (Kd.V_far (p := ⟨gb102, 4, none⟩) (Kd.V_far (p := ⟨gb102, 3, none⟩) (Kd.V_far (p := ⟨gb102, 2, none⟩) (Kd.V_far (p := ⟨gb102, 1, none⟩) (Kd.V_far (p := ⟨gb102, 0, none⟩) (Kd.V_mono HO0_7.out (fun k_ hk => (⟨hk, hk.1.1.2⟩ : _ ∧ k_ ≠ gb102))) (fun _ hk => hk.2) (.int .i64 a0_0)) (fun _ hk => hk.2) (.int .u64 a0_1)) (fun _ hk => hk.2) (.int .u64 a0_2)) (fun _ hk => hk.2) (.int .u64 a0_3)) (fun _ hk => hk.2) (.int .u64 a0_4)) (fun _ hk => hk.2) (.slice Ao10 t103.length co10)) (fun _ hk => hk.2) (.slice Ao9 t106.length co9)) (fun _ hk => hk.2) (.slice A0_7 l0_7.length c0_7)) (fun _ hk => hk.2) (.slice A0_8 l0_8.length c0_8)) (fun _ hk => ⟨hk.1.1.1.1.1, ⟨hk.1.1.2, hk.1.2⟩⟩), by (with_reducible repeat (first | apply Kd.V_alloc | apply Kd.V_drewN | apply Kd.V_drew)); exact Kd.V_mono (Kd.V_far (p := ⟨gb102, 8, none⟩) (Kd.V_far (p := ⟨gb102, 7, none⟩) (Kd.V_far (p := ⟨gb102, 6, none⟩) (Kd.V_far (p := ⟨gb102, 5, none⟩) (Kd.V_far (p := ⟨gb102, 4, none⟩) (Kd.V_far (p := ⟨gb102, 3, none⟩) (Kd.V_far (p := ⟨gb102, 2, none⟩) (Kd.V_far (p := ⟨gb102, 1, none⟩) (Kd.V_far (p := ⟨gb102, 0, none⟩) (Kd.V_mono HO0_8.out (fun k_ hk => (⟨hk, hk.1.1.2⟩ : _ ∧ k_ ≠ gb102))) (fun _ hk => hk.2) (.int .i64 a0_0)) (fun _ hk => hk.2) (.int .u64 a0_1)) (fun _ hk => hk.2) (.int .u64 a0_2)) (fun _ hk => hk.2) (.int .u64 a0_3)) (fun _ hk => hk.2) (.int .u64 a0_4)) (fun _ hk => hk.2) (.slice Ao10 t103.length co10)) (fun _ hk => hk.2) (.slice Ao9 t106.length co9)) (fun _ hk => hk.2) (.slice A0_7 l0_7.length c0_7)) (fun _ hk => hk.2) (.slice A0_8 l0_8.length c0_8)) (fun _ hk => ⟨hk.1.1.1.1.1, ⟨hk.1.1.2, hk.1.2⟩⟩), by repeat (first | (with_reducible first | exact HB.out | apply below_alloc | apply pw_below_drewN | apply below_drew1 | refine below_set ?_ GE101.out | refine below_set ?_ GE102.out) | exact HB.out)⟩
end Go.Proofs.Ytacgeafjilipdaa.P
namespace Go.Proofs.Ytacgeafjilipdaa.P
open Go.RowKit Go.Shelf Go.Proofs.YtacgeafjilipdaaW.PrintWords Go.Proofs.YtacgeafjilipdaaW.PrintLast Go.Proofs.YtacgeafjilipdaaW.PrintMore
set_option linter.unusedVariables false
set_option linter.unusedSimpArgs false
def GR (w : World) (v : Value) (h : Fh) : Prop :=
  ∃ v5 v6 v7 v8, v = .agg #[.int .i64 h.f0, .int .u64 h.f1, .int .u64 h.f2, .int .u64 h.f3, .int .u64 h.f4, v5, v6, v7, v8] ∧ SI kRsp w v5 (h.f5.map toR) ∧ SI kRsp w v6 (h.f6.map toR) ∧ SI (Kd.int .u64) w v7 h.f7 ∧ SI (Kd.int .u64) w v8 h.f8
theorem GR.below {w w' : World} {v : Value} {h : Fh} (x : GR w v h) (hb : Below w.heap.size w w') : GR w' v h := by
  obtain ⟨v5, v6, v7, v8, e, h5, h6, h7, h8⟩ := x
  exact ⟨v5, v6, v7, v8, e, h5.below hb, h6.below hb, h7.below hb, h8.below hb⟩
theorem GR.open_ {w : World} {v : Value} {h : Fh} (x : GR w v h) : ∃ A5 c5 A6 c6 A7 c7 A8 c8, v = .agg #[.int .i64 h.f0, .int .u64 h.f1, .int .u64 h.f2, .int .u64 h.f3, .int .u64 h.f4, .slice A5 h.f5.length c5, .slice A6 h.f6.length c6, .slice A7 h.f7.length c7, .slice A8 h.f8.length c8] ∧
    SI kRsp w (.slice A5 h.f5.length c5) (h.f5.map toR) ∧ SI kRsp w (.slice A6 h.f6.length c6) (h.f6.map toR) ∧ SI (Kd.int .u64) w (.slice A7 h.f7.length c7) h.f7 ∧ SI (Kd.int .u64) w (.slice A8 h.f8.length c8) h.f8 := by
  obtain ⟨v5, v6, v7, v8, rfl, h5, h6, h7, h8⟩ := x
  obtain ⟨A5, c5, rfl, h51, h52⟩ := h5
  obtain ⟨A6, c6, rfl, h61, h62⟩ := h6
  obtain ⟨A7, c7, rfl, h71, h72⟩ := h7
  obtain ⟨A8, c8, rfl, h81, h82⟩ := h8
  rw [List.length_map]
  rw [List.length_map]
  refine ⟨A5, c5, A6, c6, A7, c7, A8, c8, rfl, ⟨A5, c5, by rw [List.length_map], h51, h52⟩, ⟨A6, c6, by rw [List.length_map], h61, h62⟩, .of h72 h71, .of h82 h81⟩
theorem spans11_eq (l : List Sp) (hm : l.length < 8796093022208) (k : Nat) (hk : l.length < k) : tidepolelaw11_spans.f k l = some (l.map toR) := by
  unfold tidepolelaw11_spans.f
  have : ∀ (d k i : Nat), l.length - i = d → d < k → i ≤ l.length → tidepolelaw11_spans.l0 k ((l.take i).map toR) l (l.length : Int) (i : Int) = some (l.map toR) := by
    intro d
    induction d with
    | zero =>
      intro k i hd hk hi
      obtain ⟨k, rfl⟩ : ∃ m, k = m + 1 := ⟨k - 1, by omega⟩
      rw [tidepolelaw11_spans.l0, if_neg (by omega), List.take_of_length_le (by omega)]
    | succ d ih =>
      intro k i hd hk hi
      obtain ⟨k, rfl⟩ : ∃ m, k = m + 1 := ⟨k - 1, by omega⟩
      have hlt : i < l.length := by omega
      have hl1 : ((l.take i).map toR).length = i := by simp; omega
      rw [tidepolelaw11_spans.l0, if_pos (by omega), if_pos (by omega), if_pos (by omega), hl1, rdSp_at hlt, if_pos (by omega), wrap_succ (by omega), ← ih k (i + 1) (by omega) (by omega) (by omega), take_at hlt]
      simp only [List.map_append, List.map_cons, List.map_nil]
      rfl
  exact this l.length k 0 (by omega) hk (by omega)
theorem few11_c (l : List Sp) (hw : wfSps l) : ∃ b : Bool, (b = true → l.length ≤ 400) ∧ ∀ (w : World) (v : Value), SI kSp w v l → Calls Try.prog 134 #[v] w fun e w' => e = .returned (.bool b) ∧ Below w.heap.size w w' := by
  have hl : ∀ (d k i : Nat) (n : Int), 401 - i = d → d < k → i ≤ l.length → (i : Int) ≤ n → n ≤ 400 → ∃ b, tidepolelaw11_few.l0 k n l (l.length : Int) (i : Int) = some b ∧ (b = true → l.length ≤ 400) := by
    intro d
    induction d with
    | zero => intro k i n hd hk hi h0 h1; omega
    | succ d ih =>
      intro k i n hd hk hi h0 h1
      obtain ⟨k, rfl⟩ : ∃ m, k = m + 1 := ⟨k - 1, by omega⟩
      simp only [tidepolelaw11_few.l0]
      by_cases hlt : i < l.length
      · rw [if_pos (by omega), if_pos (by omega), if_pos (by omega), rdSp_at hlt, wrap_succ (by omega)]
        generalize l[i] = s
        have hrec : ∀ m : Int, n + 1 ≤ m → ∃ b, (if m > 400 then some false else tidepolelaw11_few.l0 k m l (l.length : Int) ((i + 1 : Nat) : Int)) = some b ∧ (b = true → l.length ≤ 400) := by
          intro m hm
          by_cases c : m > 400
          · rw [if_pos c]; exact ⟨false, rfl, fun h => by cases h⟩
          · rw [if_neg c]; exact ih k (i + 1) m (by omega) (by omega) (by omega) (by omega) (by omega)
        by_cases c : s.f1 > 0
        · rw [if_pos c]
          have hmn : 0 ≤ mn s.f1 5000 ∧ mn s.f1 5000 ≤ 5000 := by unfold mn; omega
          have ht := Int.tdiv_eq_ediv_of_nonneg (b := 10) hmn.1
          rw [ht]
          refine hrec _ ?_
          rw [wrap_id (x := mn s.f1 5000 / 10) (by omega) (by omega), wrap_id (x := 1 + mn s.f1 5000 / 10) (by omega) (by omega), wrap_id (x := n + (1 + mn s.f1 5000 / 10)) (by omega) (by omega), wrap_id (by omega) (by omega)]
          omega
        · rw [if_neg c]
          refine hrec _ ?_
          rw [wrap_id (by omega) (by omega)]; omega
      · rw [if_neg (by omega)]; exact ⟨true, rfl, fun _ => by omega⟩
  obtain ⟨b, h1, h2⟩ := hl 401 402 0 0 (by omega) (by omega) (by omega) (by omega) (by omega)
  refine ⟨b, h2, fun w v hv => ?_⟩
  obtain ⟨A, c, rfl, hc, hr⟩ := hv
  exact (tidepolelaw11_few.calls 402 A c l b w hr hc h1).mono fun e w1 h => ⟨h.1, h.2⟩
set_option maxHeartbeats 8000000 in
set_option maxRecDepth 100000 in
theorem small11_c (h : Hi) (hw5 : wfSps h.f5) (hw6 : wfSps h.f6) : ∃ b : Bool, (b = true → h.f5.length ≤ 400 ∧ h.f6.length ≤ 400 ∧ h.f7.length ≤ 300 ∧ h.f8.length ≤ 300) ∧ ∀ (w : World) (v : Value), HI w v h → Calls Try.prog 54 #[v] w fun e w' => e = .returned (.bool b) ∧ Below w.heap.size w w' := by
  obtain ⟨b1, hb1, c1⟩ := few11_c h.f5 hw5
  obtain ⟨b2, hb2, c2⟩ := few11_c h.f6 hw6
  have C1 := Aside0.mk c1
  have C2 := Aside0.mk c2
  have hu := Try.underlying64
  clear c1 c2
  cases b1 with
  | false =>
    refine ⟨false, (fun h => nomatch h), fun w v hv => ?_⟩
    obtain ⟨A5, c5, A6, c6, A7, c7, A8, c8, e, h5, h6, h7, h8⟩ := hv.open_
    subst e
    have B := Aside0.mk (below_alloc (Below.refl w.heap.size w) (.cells #[.int .i64 h.f0, .int .u64 h.f1, .int .u64 h.f2, .int .u64 h.f3, .int .u64 h.f4, .slice A5 h.f5.length c5, .slice A6 h.f6.length c6, .slice A7 h.f7.length c7, .slice A8 h.f8.length c8] 64))
    have X := Aside0.mk (Blk.new w #[.int .i64 h.f0, .int .u64 h.f1, .int .u64 h.f2, .int .u64 h.f3, .int .u64 h.f4, .slice A5 h.f5.length c5, .slice A6 h.f6.length c6, .slice A7 h.f7.length c7, .slice A8 h.f8.length c8] 64)
    have hx := fun i => X.out.cell i
    have H5 := Aside0.mk (h5.below B.out)
    have H6 := Aside0.mk (h6.below B.out)
    clear hv h5 h6 h7 h8
    go_enter Try.func54, Try.ntmps54
    go_wp2_with (first | (go_at_call 134; (with_reducible refine (C1.out _ _ H5.out).mono ?_); rintro e W ⟨rfl, hb⟩; replace B := Aside0.mk (below_then B.out B.out.size hb); replace H5 := Aside0.mk (H5.out.below hb); replace H6 := Aside0.mk (H6.out.below hb); replace X := Aside0.mk (X.out.below hb); replace hx := fun i => X.out.cell i; clear  hb))
    go_ret
    exact ⟨rfl, B.out⟩
  | true =>
    have n1 := hb1 rfl
    cases b2 with
    | false =>
      refine ⟨false, (fun h => nomatch h), fun w v hv => ?_⟩
      obtain ⟨A5, c5, A6, c6, A7, c7, A8, c8, e, h5, h6, h7, h8⟩ := hv.open_
      subst e
      have B := Aside0.mk (below_alloc (Below.refl w.heap.size w) (.cells #[.int .i64 h.f0, .int .u64 h.f1, .int .u64 h.f2, .int .u64 h.f3, .int .u64 h.f4, .slice A5 h.f5.length c5, .slice A6 h.f6.length c6, .slice A7 h.f7.length c7, .slice A8 h.f8.length c8] 64))
      have X := Aside0.mk (Blk.new w #[.int .i64 h.f0, .int .u64 h.f1, .int .u64 h.f2, .int .u64 h.f3, .int .u64 h.f4, .slice A5 h.f5.length c5, .slice A6 h.f6.length c6, .slice A7 h.f7.length c7, .slice A8 h.f8.length c8] 64)
      have hx := fun i => X.out.cell i
      have H5 := Aside0.mk (h5.below B.out)
      have H6 := Aside0.mk (h6.below B.out)
      clear hv h5 h6 h7 h8
      go_enter Try.func54, Try.ntmps54
      go_wp2_with (first | (go_at_call 134; (with_reducible refine (C1.out _ _ H5.out).mono ?_); rintro e W ⟨rfl, hb⟩; replace B := Aside0.mk (below_then B.out B.out.size hb); replace H5 := Aside0.mk (H5.out.below hb); replace H6 := Aside0.mk (H6.out.below hb); replace X := Aside0.mk (X.out.below hb); replace hx := fun i => X.out.cell i; clear  hb) | (go_at_call 134; (with_reducible refine (C2.out _ _ H6.out).mono ?_); rintro e W ⟨rfl, hb⟩; replace B := Aside0.mk (below_then B.out B.out.size hb); replace H5 := Aside0.mk (H5.out.below hb); replace H6 := Aside0.mk (H6.out.below hb); replace X := Aside0.mk (X.out.below hb); replace hx := fun i => X.out.cell i; clear  hb))
      go_ret
      exact ⟨rfl, B.out⟩
    | true =>
      have n2 := hb2 rfl
      by_cases c3 : h.f7.length ≤ 300
      · by_cases c4 : h.f8.length ≤ 300
        · refine ⟨true, fun _ => ⟨n1, n2, c3, c4⟩, fun w v hv => ?_⟩
          have d3 : decide ((h.f7.length : Int) ≤ 300) = true := decide_eq_true (by omega)
          have d4 : decide ((h.f8.length : Int) ≤ 300) = true := decide_eq_true (by omega)
          clear n1 n2 hb1 hb2
          obtain ⟨A5, c5, A6, c6, A7, c7, A8, c8, e, h5, h6, h7, h8⟩ := hv.open_
          subst e
          have B := Aside0.mk (below_alloc (Below.refl w.heap.size w) (.cells #[.int .i64 h.f0, .int .u64 h.f1, .int .u64 h.f2, .int .u64 h.f3, .int .u64 h.f4, .slice A5 h.f5.length c5, .slice A6 h.f6.length c6, .slice A7 h.f7.length c7, .slice A8 h.f8.length c8] 64))
          have X := Aside0.mk (Blk.new w #[.int .i64 h.f0, .int .u64 h.f1, .int .u64 h.f2, .int .u64 h.f3, .int .u64 h.f4, .slice A5 h.f5.length c5, .slice A6 h.f6.length c6, .slice A7 h.f7.length c7, .slice A8 h.f8.length c8] 64)
          have hx := fun i => X.out.cell i
          have H5 := Aside0.mk (h5.below B.out)
          have H6 := Aside0.mk (h6.below B.out)
          clear hv h5 h6 h7 h8
          go_enter Try.func54, Try.ntmps54
          go_wp2_with (first | (go_at_call 134; (with_reducible refine (C1.out _ _ H5.out).mono ?_); rintro e W ⟨rfl, hb⟩; replace B := Aside0.mk (below_then B.out B.out.size hb); replace H5 := Aside0.mk (H5.out.below hb); replace H6 := Aside0.mk (H6.out.below hb); replace X := Aside0.mk (X.out.below hb); replace hx := fun i => X.out.cell i; clear  hb) | (go_at_call 134; (with_reducible refine (C2.out _ _ H6.out).mono ?_); rintro e W ⟨rfl, hb⟩; replace B := Aside0.mk (below_then B.out B.out.size hb); replace H5 := Aside0.mk (H5.out.below hb); replace H6 := Aside0.mk (H6.out.below hb); replace X := Aside0.mk (X.out.below hb); replace hx := fun i => X.out.cell i; clear  hb))
          go_ret
          exact ⟨rfl, B.out⟩
        · refine ⟨false, (fun h => nomatch h), fun w v hv => ?_⟩
          have d3 : decide ((h.f7.length : Int) ≤ 300) = true := decide_eq_true (by omega)
          have d4 : decide ((h.f8.length : Int) ≤ 300) = false := decide_eq_false (by omega)
          clear n1 n2 hb1 hb2
          obtain ⟨A5, c5, A6, c6, A7, c7, A8, c8, e, h5, h6, h7, h8⟩ := hv.open_
          subst e
          have B := Aside0.mk (below_alloc (Below.refl w.heap.size w) (.cells #[.int .i64 h.f0, .int .u64 h.f1, .int .u64 h.f2, .int .u64 h.f3, .int .u64 h.f4, .slice A5 h.f5.length c5, .slice A6 h.f6.length c6, .slice A7 h.f7.length c7, .slice A8 h.f8.length c8] 64))
          have X := Aside0.mk (Blk.new w #[.int .i64 h.f0, .int .u64 h.f1, .int .u64 h.f2, .int .u64 h.f3, .int .u64 h.f4, .slice A5 h.f5.length c5, .slice A6 h.f6.length c6, .slice A7 h.f7.length c7, .slice A8 h.f8.length c8] 64)
          have hx := fun i => X.out.cell i
          have H5 := Aside0.mk (h5.below B.out)
          have H6 := Aside0.mk (h6.below B.out)
          clear hv h5 h6 h7 h8
          go_enter Try.func54, Try.ntmps54
          go_wp2_with (first | (go_at_call 134; (with_reducible refine (C1.out _ _ H5.out).mono ?_); rintro e W ⟨rfl, hb⟩; replace B := Aside0.mk (below_then B.out B.out.size hb); replace H5 := Aside0.mk (H5.out.below hb); replace H6 := Aside0.mk (H6.out.below hb); replace X := Aside0.mk (X.out.below hb); replace hx := fun i => X.out.cell i; clear  hb) | (go_at_call 134; (with_reducible refine (C2.out _ _ H6.out).mono ?_); rintro e W ⟨rfl, hb⟩; replace B := Aside0.mk (below_then B.out B.out.size hb); replace H5 := Aside0.mk (H5.out.below hb); replace H6 := Aside0.mk (H6.out.below hb); replace X := Aside0.mk (X.out.below hb); replace hx := fun i => X.out.cell i; clear  hb))
          go_ret
          exact ⟨rfl, B.out⟩
      · refine ⟨false, (fun h => nomatch h), fun w v hv => ?_⟩
        have d3 : decide ((h.f7.length : Int) ≤ 300) = false := decide_eq_false (by omega)
        clear n1 n2 hb1 hb2
        obtain ⟨A5, c5, A6, c6, A7, c7, A8, c8, e, h5, h6, h7, h8⟩ := hv.open_
        subst e
        have B := Aside0.mk (below_alloc (Below.refl w.heap.size w) (.cells #[.int .i64 h.f0, .int .u64 h.f1, .int .u64 h.f2, .int .u64 h.f3, .int .u64 h.f4, .slice A5 h.f5.length c5, .slice A6 h.f6.length c6, .slice A7 h.f7.length c7, .slice A8 h.f8.length c8] 64))
        have X := Aside0.mk (Blk.new w #[.int .i64 h.f0, .int .u64 h.f1, .int .u64 h.f2, .int .u64 h.f3, .int .u64 h.f4, .slice A5 h.f5.length c5, .slice A6 h.f6.length c6, .slice A7 h.f7.length c7, .slice A8 h.f8.length c8] 64)
        have hx := fun i => X.out.cell i
        have H5 := Aside0.mk (h5.below B.out)
        have H6 := Aside0.mk (h6.below B.out)
        clear hv h5 h6 h7 h8
        go_enter Try.func54, Try.ntmps54
        go_wp2_with (first | (go_at_call 134; (with_reducible refine (C1.out _ _ H5.out).mono ?_); rintro e W ⟨rfl, hb⟩; replace B := Aside0.mk (below_then B.out B.out.size hb); replace H5 := Aside0.mk (H5.out.below hb); replace H6 := Aside0.mk (H6.out.below hb); replace X := Aside0.mk (X.out.below hb); replace hx := fun i => X.out.cell i; clear  hb) | (go_at_call 134; (with_reducible refine (C2.out _ _ H6.out).mono ?_); rintro e W ⟨rfl, hb⟩; replace B := Aside0.mk (below_then B.out B.out.size hb); replace H5 := Aside0.mk (H5.out.below hb); replace H6 := Aside0.mk (H6.out.below hb); replace X := Aside0.mk (X.out.below hb); replace hx := fun i => X.out.cell i; clear  hb))
        go_ret
        exact ⟨rfl, B.out⟩
theorem ints11_c (h : Hi) (h5 : h.f5.length < 8796093022208) (h6 : h.f6.length < 8796093022208) (w : World) (v : Value) (hv : HI w v h) : Calls Try.prog 58 #[v] w fun e w' =>
    ∃ v', e = .returned v' ∧ HR w' v' h ∧ Below w.heap.size w w' := by
  obtain ⟨A5, c5, A6, c6, A7, c7, A8, c8, rfl, ⟨_, _, e5, h51, h52⟩, ⟨_, _, e6, h61, h62⟩, ⟨_, _, e7, h71, h72⟩, ⟨_, _, e8, h81, h82⟩⟩ := hv.open_
  cases e5; cases e6; cases e7; cases e8
  obtain ⟨k, hk⟩ : ∃ k, k = h.f5.length + h.f6.length + 1 := ⟨_, rfl⟩
  refine (tidepolelaw11_ints.calls k h.f0 h.f1 h.f2 h.f3 h.f4 A5 c5 h.f5 A6 c6 h.f6 _ A7 c7 h.f7 _ A8 c8 h.f8 h.f0 h.f1 h.f2 h.f3 h.f4 (h.f5.map toR) (h.f6.map toR) h.f7 h.f8 w h52 h51 h62 h61 (SI.V h71 h72) (SI.V h81 h82) ?_).mono ?_
  · unfold tidepolelaw11_ints.f
    rw [spans11_eq _ h5 k (by omega), Option.bind_some, spans11_eq _ h6 k (by omega), Option.bind_some]
  · rintro e w1 ⟨v5, v6, v7, v8, rfl, i5, i6, i7, i8, hb⟩
    exact ⟨_, rfl, ⟨v5, v6, v7, v8, rfl, .of_R i5, .of_R i6, .of_V i7, .of_V i8⟩, hb⟩
end Go.Proofs.Ytacgeafjilipdaa.P
namespace Go.Proofs.Ytacgeafjilipdaa.P
open Go.RowKit Go.Proofs.YtacgeafjilipdaaW.PrintWords Go.Proofs.YtacgeafjilipdaaW.PrintLast Go.Proofs.YtacgeafjilipdaaW.PrintMore
attribute [local go_sem] max2_int min2_int max_two min_two max_three min_three max_four min_four
set_option linter.unusedVariables false
set_option linter.unusedSimpArgs false
def tidepoleref11_Numbers.f (a0 : Int) (a1 : Int) (a2 : Int) (a3 : Int) (a4 : Int) (a5 : Int) (a6 : Int) (a7 : Int) : Option (Int) := if a0 = a1 then (if a2 = a3 then (if a5 < a4 then (some 3) else (if a7 < a6 then (some 4) else (some 0))) else (some 2)) else (some 1)
set_option maxHeartbeats 8000000 in
set_option maxRecDepth 100000 in
theorem tidepoleref11_Numbers.calls (a0 : Int) (a1 : Int) (a2 : Int) (a3 : Int) (a4 : Int) (a5 : Int) (a6 : Int) (a7 : Int) (r : Int) (w : World) (h : tidepoleref11_Numbers.f a0 a1 a2 a3 a4 a5 a6 a7 = some r) :
  Calls Try.prog 140 #[.int .i64 a0, .int .i64 a1, .int .u64 a2, .int .u64 a3, .int .u64 a4, .int .u64 a5, .int .u64 a6, .int .u64 a7] w fun e w' => e = .returned (.int .i64 r) ∧ Drawn0 w w' := by
 have H : (if a0 = a1 then (if a2 = a3 then (if a5 < a4 then (some 3) else (if a7 < a6 then (some 4) else (some 0))) else (some 2)) else (some 1)) = some r := h
 clear h
 by_cases c9 : a0 = a1
 ·rw [if_pos c9] at H
  have c9b0 : (a0 == a1) = true := beq_iff_eq.mpr c9
  have c9b1 : (a0 != a1) = false := bne_eq_false_iff_eq.mpr c9
  clear c9
  by_cases c10 : a2 = a3
  ·rw [if_pos c10] at H
   have c10b0 : (a2 == a3) = true := beq_iff_eq.mpr c10
   have c10b1 : (a2 != a3) = false := bne_eq_false_iff_eq.mpr c10
   clear c10
   by_cases c11 : a5 < a4
   ·rw [if_pos c11] at H
    have c11b0 : decide (a5 < a4) = true := decide_eq_true c11
    clear c11
    obtain rfl := Option.some.inj H
    go_enter Try.func140, Try.ntmps140
    go_wp2
    go_ret
    exact ⟨by first | rfl | (simp; done) | (simp [*]; done), by repeat (first | exact Drawn0.refl _ | apply Drawn0.step)⟩
   ·rw [if_neg c11] at H
    have c11b0 : decide (a5 < a4) = false := decide_eq_false c11
    clear c11
    by_cases c12 : a7 < a6
    ·rw [if_pos c12] at H
     have c12b0 : decide (a7 < a6) = true := decide_eq_true c12
     clear c12
     obtain rfl := Option.some.inj H
     go_enter Try.func140, Try.ntmps140
     go_wp2
     go_ret
     exact ⟨by first | rfl | (simp; done) | (simp [*]; done), by repeat (first | exact Drawn0.refl _ | apply Drawn0.step)⟩
    ·rw [if_neg c12] at H
     have c12b0 : decide (a7 < a6) = false := decide_eq_false c12
     clear c12
     obtain rfl := Option.some.inj H
     go_enter Try.func140, Try.ntmps140
     go_wp2
     go_ret
     exact ⟨by first | rfl | (simp; done) | (simp [*]; done), by repeat (first | exact Drawn0.refl _ | apply Drawn0.step)⟩
  ·rw [if_neg c10] at H
   have c10b0 : (a2 == a3) = false := beq_eq_false_iff_ne.mpr c10
   have c10b1 : (a2 != a3) = true := bne_iff_ne.mpr c10
   obtain rfl := Option.some.inj H
   go_enter Try.func140, Try.ntmps140
   go_wp2
   go_ret
   exact ⟨by first | rfl | (simp; done) | (simp [*]; done), by repeat (first | exact Drawn0.refl _ | apply Drawn0.step)⟩
 ·rw [if_neg c9] at H
  have c9b0 : (a0 == a1) = false := beq_eq_false_iff_ne.mpr c9
  have c9b1 : (a0 != a1) = true := bne_iff_ne.mpr c9
  obtain rfl := Option.some.inj H
  go_enter Try.func140, Try.ntmps140
  go_wp2
  go_ret
  exact ⟨by first | rfl | (simp; done) | (simp [*]; done), by repeat (first | exact Drawn0.refl _ | apply Drawn0.step)⟩
def tidepoleref11_Less.l0 : Nat → List Int → List Int → List Int → List Int → Int → Option (Int)
 | 0, _, _, _, _, _ => none
 | k + 1, x0, x1, x2, x3, x9 => if x9 < (x0.length : Int) then (if 0 ≤ x9 then ((tidepoleref09_At.f k x2 x3 (rd x0 x9)).bind fun t102 => (if x9 < (x1.length : Int) then (if t102 < (rd x1 x9) then (some x9) else (tidepoleref11_Less.l0 k x0 x1 x2 x3 (wrap64 (x9 + 1)))) else (none))) else (none)) else (some (-1))
def tidepoleref11_Less.f (k : Nat) (l0 : List Int) (l1 : List Int) (l2 : List Int) (l3 : List Int) : Option (Int) := tidepoleref11_Less.l0 k l0 l1 l2 l3 0
set_option maxHeartbeats 8000000 in
set_option maxRecDepth 100000 in
theorem tidepoleref11_Less.calls (k : Nat) (A0 : Option Addr) (c0 : Nat) (l0 : List Int) (A1 : Option Addr) (c1 : Nat) (l1 : List Int) (A2 : Option Addr) (c2 : Nat) (l2 : List Int) (A3 : Option Addr) (c3 : Nat) (l3 : List Int) (r : Int) (w : World) (hr0 : Kd.C (Kd.int .i64) w A0 l0.length l0) (hc0 : l0.length ≤ c0) (hr1 : Kd.C (Kd.int .i64) w A1 l1.length l1) (hc1 : l1.length ≤ c1) (hr2 : Kd.C (Kd.int .i64) w A2 l2.length l2) (hc2 : l2.length ≤ c2) (hr3 : Kd.C (Kd.int .i64) w A3 l3.length l3) (hc3 : l3.length ≤ c3) (h : tidepoleref11_Less.f k l0 l1 l2 l3 = some r) :
  Calls Try.prog 141 #[.slice A0 l0.length c0, .slice A1 l1.length c1, .slice A2 l2.length c2, .slice A3 l3.length c3] w fun e w' => e = .returned (.int .i64 r) ∧ Drawn0 w w' := by
 have HR0 := Aside0.mk hr0
 have HC0 := Aside0.mk hc0
 clear hr0 hc0
 have HR1 := Aside0.mk hr1
 have HC1 := Aside0.mk hc1
 clear hr1 hc1
 have HR2 := Aside0.mk hr2
 have HC2 := Aside0.mk hc2
 clear hr2 hc2
 have HR3 := Aside0.mk hr3
 have HC3 := Aside0.mk hc3
 clear hr3 hc3
 have H : (tidepoleref11_Less.l0 k l0 l1 l2 l3 0) = some r := h
 clear h
 have H' := Aside0.mk H
 clear H
 go_enter Try.func141, Try.ntmps141
 go_wp2
 repeat (go_quiet (fail); try go_wp2)
 go_loopg [9] k (fun kq v9 w' => ∃ (x9_1 : Int), v9 = .int .i64 x9_1 ∧ Aside0 (tidepoleref11_Less.l0 kq l0 l1 l2 l3 x9_1 = some r) ∧ Aside0 (kq ≤ k) ∧ Drawn0 w w')
 case atStart => exact ⟨(0), (by first | rfl | (simp; done) | (simp [*]; done)), H', ⟨Nat.le_refl _⟩, by repeat (first | exact Drawn0.refl _ | apply Drawn0.step)⟩
 case round =>
  clear H'
  try clear c1
  try clear c2
  try clear p2
  try clear c3
  obtain ⟨x9_1, rfl, HA, HK1, ⟨m1, rfl⟩⟩ := hrel
  cases gk with
  | zero => exact absurd HA.out (by simp [tidepoleref11_Less.l0])
  | succ k1 =>
   have H := HA.out
   clear HA
   simp only [tidepoleref11_Less.l0] at H
   by_cases c5 : x9_1 < (l0.length : Int)
   ·rw [if_pos c5] at H
    have c5b0 : decide (x9_1 < (l0.length : Int)) = true := decide_eq_true c5
    clear c5
    by_cases c6 : 0 ≤ x9_1
    ·rw [if_pos c6] at H
     have c6b0 : decide (0 ≤ x9_1) = true := decide_eq_true c6
     clear c6
     replace H := Option.bind_eq_some_iff.mp H
     obtain ⟨t102, A70, H⟩ := H
     replace H : (if x9_1 < (l1.length : Int) then (if t102 < (rd l1 x9_1) then (some x9_1) else (tidepoleref11_Less.l0 k1 l0 l1 l2 l3 (wrap64 (x9_1 + 1)))) else (none)) = some r := H
     have A7 := Aside0.mk A70
     clear A70
     by_cases c8 : x9_1 < (l1.length : Int)
     ·rw [if_pos c8] at H
      have c8b0 : decide (x9_1 < (l1.length : Int)) = true := decide_eq_true c8
      clear c8
      by_cases c9 : t102 < (rd l1 x9_1)
      ·rw [if_pos c9] at H
       have c9b0 : decide (t102 < (rd l1 x9_1)) = true := decide_eq_true c9
       clear c9
       obtain rfl := Option.some.inj H
       have p101 : 0 ≤ (x9_1 : Int) := of_decide_eq_true (by first | (with_reducible assumption) | assumption)
       have q101 : x9_1 < (l0.length : Int) := of_decide_eq_true (by first | (with_reducible assumption) | assumption)
       obtain ⟨ad101, e101, hx101_0⟩ := Kd.at_int HR0.out x9_1 p101 q101
       cases e101
       replace p101 := eq_true p101
       replace q101 := eq_true q101
       go_wp2_with (first | (go_at_call 176; (with_reducible refine (tidepoleref09_At.calls k1 _ _ l2 _ _ l3 (rd l0 x9_1) t102 _ ?side1 ?side2 ?side3 ?side4 A7.out).mono ?_); (case side1 => repeat (first | exact HR2.out | (with_reducible refine Kd.C_alloc ?_ _) | (with_reducible refine Kd.C_drewN ?_ _) | (with_reducible refine Kd.C_drew ?_))); (case side2 => exact HC2.out); (case side3 => repeat (first | exact HR3.out | (with_reducible refine Kd.C_alloc ?_ _) | (with_reducible refine Kd.C_drewN ?_ _) | (with_reducible refine Kd.C_drew ?_))); (case side4 => exact HC3.out); rintro e w' ⟨rfl, ⟨nd, rfl⟩⟩; (try first | exact ⟨rfl, _, World.drewN_drewN _ _ _⟩ | exact ⟨rfl, _, Eq.trans (World.drewN_drewN _ _ _) (congrArg (World.drewN _) (Nat.add_assoc _ _ _))⟩); clear A7; have p103 : 0 ≤ (x9_1 : Int) := of_decide_eq_true (by first | (with_reducible assumption) | assumption); have q103 : x9_1 < (l1.length : Int) := of_decide_eq_true (by first | (with_reducible assumption) | assumption); obtain ⟨ad103, e103, hx103_0⟩ := Kd.at_int HR1.out x9_1 p103 q103; cases e103; replace p103 := eq_true p103; replace q103 := eq_true q103))
       repeat (go_quiet (first | (go_at_call 176; (with_reducible refine (tidepoleref09_At.calls k1 _ _ l2 _ _ l3 (rd l0 x9_1) t102 _ ?side1 ?side2 ?side3 ?side4 A7.out).mono ?_); (case side1 => repeat (first | exact HR2.out | (with_reducible refine Kd.C_alloc ?_ _) | (with_reducible refine Kd.C_drewN ?_ _) | (with_reducible refine Kd.C_drew ?_))); (case side2 => exact HC2.out); (case side3 => repeat (first | exact HR3.out | (with_reducible refine Kd.C_alloc ?_ _) | (with_reducible refine Kd.C_drewN ?_ _) | (with_reducible refine Kd.C_drew ?_))); (case side4 => exact HC3.out); rintro e w' ⟨rfl, ⟨nd, rfl⟩⟩; (try first | exact ⟨rfl, _, World.drewN_drewN _ _ _⟩ | exact ⟨rfl, _, Eq.trans (World.drewN_drewN _ _ _) (congrArg (World.drewN _) (Nat.add_assoc _ _ _))⟩); clear A7; have p103 : 0 ≤ (x9_1 : Int) := of_decide_eq_true (by first | (with_reducible assumption) | assumption); have q103 : x9_1 < (l1.length : Int) := of_decide_eq_true (by first | (with_reducible assumption) | assumption); obtain ⟨ad103, e103, hx103_0⟩ := Kd.at_int HR1.out x9_1 p103 q103; cases e103; replace p103 := eq_true p103; replace q103 := eq_true q103)); try go_wp2_with (first | (go_at_call 176; (with_reducible refine (tidepoleref09_At.calls k1 _ _ l2 _ _ l3 (rd l0 x9_1) t102 _ ?side1 ?side2 ?side3 ?side4 A7.out).mono ?_); (case side1 => repeat (first | exact HR2.out | (with_reducible refine Kd.C_alloc ?_ _) | (with_reducible refine Kd.C_drewN ?_ _) | (with_reducible refine Kd.C_drew ?_))); (case side2 => exact HC2.out); (case side3 => repeat (first | exact HR3.out | (with_reducible refine Kd.C_alloc ?_ _) | (with_reducible refine Kd.C_drewN ?_ _) | (with_reducible refine Kd.C_drew ?_))); (case side4 => exact HC3.out); rintro e w' ⟨rfl, ⟨nd, rfl⟩⟩; (try first | exact ⟨rfl, _, World.drewN_drewN _ _ _⟩ | exact ⟨rfl, _, Eq.trans (World.drewN_drewN _ _ _) (congrArg (World.drewN _) (Nat.add_assoc _ _ _))⟩); clear A7; have p103 : 0 ≤ (x9_1 : Int) := of_decide_eq_true (by first | (with_reducible assumption) | assumption); have q103 : x9_1 < (l1.length : Int) := of_decide_eq_true (by first | (with_reducible assumption) | assumption); obtain ⟨ad103, e103, hx103_0⟩ := Kd.at_int HR1.out x9_1 p103 q103; cases e103; replace p103 := eq_true p103; replace q103 := eq_true q103)))
       go_ret
       exact ⟨by first | rfl | (simp; done) | (simp [*]; done), by repeat (first | exact Drawn0.refl _ | apply Drawn0.step)⟩
      ·rw [if_neg c9] at H
       have c9b0 : decide (t102 < (rd l1 x9_1)) = false := decide_eq_false c9
       clear c9
       have H' := Aside0.mk H
       clear H
       have p101 : 0 ≤ (x9_1 : Int) := of_decide_eq_true (by first | (with_reducible assumption) | assumption)
       have q101 : x9_1 < (l0.length : Int) := of_decide_eq_true (by first | (with_reducible assumption) | assumption)
       obtain ⟨ad101, e101, hx101_0⟩ := Kd.at_int HR0.out x9_1 p101 q101
       cases e101
       replace p101 := eq_true p101
       replace q101 := eq_true q101
       go_wp2_with (first | (go_at_call 176; (with_reducible refine (tidepoleref09_At.calls k1 _ _ l2 _ _ l3 (rd l0 x9_1) t102 _ ?side1 ?side2 ?side3 ?side4 A7.out).mono ?_); (case side1 => repeat (first | exact HR2.out | (with_reducible refine Kd.C_alloc ?_ _) | (with_reducible refine Kd.C_drewN ?_ _) | (with_reducible refine Kd.C_drew ?_))); (case side2 => exact HC2.out); (case side3 => repeat (first | exact HR3.out | (with_reducible refine Kd.C_alloc ?_ _) | (with_reducible refine Kd.C_drewN ?_ _) | (with_reducible refine Kd.C_drew ?_))); (case side4 => exact HC3.out); rintro e w' ⟨rfl, ⟨nd, rfl⟩⟩; (try first | exact ⟨rfl, _, World.drewN_drewN _ _ _⟩ | exact ⟨rfl, _, Eq.trans (World.drewN_drewN _ _ _) (congrArg (World.drewN _) (Nat.add_assoc _ _ _))⟩); clear A7; have p103 : 0 ≤ (x9_1 : Int) := of_decide_eq_true (by first | (with_reducible assumption) | assumption); have q103 : x9_1 < (l1.length : Int) := of_decide_eq_true (by first | (with_reducible assumption) | assumption); obtain ⟨ad103, e103, hx103_0⟩ := Kd.at_int HR1.out x9_1 p103 q103; cases e103; replace p103 := eq_true p103; replace q103 := eq_true q103))
       repeat (go_quiet (first | (go_at_call 176; (with_reducible refine (tidepoleref09_At.calls k1 _ _ l2 _ _ l3 (rd l0 x9_1) t102 _ ?side1 ?side2 ?side3 ?side4 A7.out).mono ?_); (case side1 => repeat (first | exact HR2.out | (with_reducible refine Kd.C_alloc ?_ _) | (with_reducible refine Kd.C_drewN ?_ _) | (with_reducible refine Kd.C_drew ?_))); (case side2 => exact HC2.out); (case side3 => repeat (first | exact HR3.out | (with_reducible refine Kd.C_alloc ?_ _) | (with_reducible refine Kd.C_drewN ?_ _) | (with_reducible refine Kd.C_drew ?_))); (case side4 => exact HC3.out); rintro e w' ⟨rfl, ⟨nd, rfl⟩⟩; (try first | exact ⟨rfl, _, World.drewN_drewN _ _ _⟩ | exact ⟨rfl, _, Eq.trans (World.drewN_drewN _ _ _) (congrArg (World.drewN _) (Nat.add_assoc _ _ _))⟩); clear A7; have p103 : 0 ≤ (x9_1 : Int) := of_decide_eq_true (by first | (with_reducible assumption) | assumption); have q103 : x9_1 < (l1.length : Int) := of_decide_eq_true (by first | (with_reducible assumption) | assumption); obtain ⟨ad103, e103, hx103_0⟩ := Kd.at_int HR1.out x9_1 p103 q103; cases e103; replace p103 := eq_true p103; replace q103 := eq_true q103)); try go_wp2_with (first | (go_at_call 176; (with_reducible refine (tidepoleref09_At.calls k1 _ _ l2 _ _ l3 (rd l0 x9_1) t102 _ ?side1 ?side2 ?side3 ?side4 A7.out).mono ?_); (case side1 => repeat (first | exact HR2.out | (with_reducible refine Kd.C_alloc ?_ _) | (with_reducible refine Kd.C_drewN ?_ _) | (with_reducible refine Kd.C_drew ?_))); (case side2 => exact HC2.out); (case side3 => repeat (first | exact HR3.out | (with_reducible refine Kd.C_alloc ?_ _) | (with_reducible refine Kd.C_drewN ?_ _) | (with_reducible refine Kd.C_drew ?_))); (case side4 => exact HC3.out); rintro e w' ⟨rfl, ⟨nd, rfl⟩⟩; (try first | exact ⟨rfl, _, World.drewN_drewN _ _ _⟩ | exact ⟨rfl, _, Eq.trans (World.drewN_drewN _ _ _) (congrArg (World.drewN _) (Nat.add_assoc _ _ _))⟩); clear A7; have p103 : 0 ≤ (x9_1 : Int) := of_decide_eq_true (by first | (with_reducible assumption) | assumption); have q103 : x9_1 < (l1.length : Int) := of_decide_eq_true (by first | (with_reducible assumption) | assumption); obtain ⟨ad103, e103, hx103_0⟩ := Kd.at_int HR1.out x9_1 p103 q103; cases e103; replace p103 := eq_true p103; replace q103 := eq_true q103)))
       go_roundg k1
       case measure => have := HK1.out; omega
       case rel => exact ⟨(wrap64 (x9_1 + 1)), (by first | rfl | (simp; done) | (simp [*]; done)), H', ⟨by have := HK1.out; omega⟩, by repeat (first | exact Drawn0.refl _ | apply Drawn0.step)⟩
     ·rw [if_neg c8] at H
      exact absurd H (by simp)
    ·rw [if_neg c6] at H
     exact absurd H (by simp)
   ·rw [if_neg c5] at H
    have c5b0 : decide (x9_1 < (l0.length : Int)) = false := decide_eq_false c5
    clear c5
    obtain rfl := Option.some.inj H
    go_wp2
    repeat (go_quiet (fail); try go_wp2)
    go_ret
    exact ⟨by first | rfl | (simp; done) | (simp [*]; done), by repeat (first | exact Drawn0.refl _ | apply Drawn0.step)⟩
end Go.Proofs.Ytacgeafjilipdaa.P
