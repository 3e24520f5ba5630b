/- ResetBoth: the part that this text bears of the proof that the statement answers true for every input. No condition. -/
import Derived.Test.YtefiabakfpfbaaaProg
import Derived.Below
import Derived.Deep.Draws
import Derived.Deep.AppendLies
import Derived.Maps.AppendAt
import Derived.OwnWalk
import Derived.Laws.BytesArg
import Derived.Laws.MakeOwn
import Derived.Laws.OwnMore
import Derived.Deep.OwnRows
import Derived.Tactics
import Derived.Lib.ConvBytes
import Derived.Laws.Slices
import Derived.WalkKit
import Derived.KernelRfl
import Derived.RowKit3
import Derived.Deep.LoopGhost
import Derived.Deep.QuietTactic
import Derived.BigQuiet
import Derived.WideLaws
import Derived.Deep.DeepCutAuto
import Derived.Deep.CutBlock
import Derived.Deep.RegionHeld3
import Derived.Laws.Rows
import Derived.Lib.AppendStr
import Derived.ArgAppend
import Derived.Laws.IdiomCopy
import Derived.OrdersHeld
import Derived.Laws.BitsLemmas
import Derived.RowKit
import Derived.Shelf.Abstract
import Derived.WalkSpells
import Derived.RangeFuncNested
import Derived.RangeFuncBound
import Derived.RangeFuncCalls
import Derived.RangeFuncLeaves
import Derived.RangeFuncBox
import Derived.OwnWalkIn
import Derived.TacticsInMore
import Derived.LoopNIn
import Derived.LoopIn
import Derived.Deep.Slices
import Derived.ChangeArms
import Derived.Laws.Externs
import Derived.Shelf.Spec.BitsCarry
import Derived.RegionIn
import Derived.Sort.QuietTacIn
import Derived.Deep.RegionWith
import Derived.Laws.BitsAllLaws
import Derived.ProofKit
import Derived.JoinedOf
import Derived.OpenShut
import Derived.ShutString
import Derived.ChangeOld
import Derived.SizedLaws
import Derived.Test.YtefiabakfpfbaaaQResetBothWWords
import Derived.Test.YtefiabakfpfbaaaQResetBothWLast
import Derived.Test.YtefiabakfpfbaaaQResetBothWTab
import Derived.Test.YtefiabakfpfbaaaQResetBothWFour
import Derived.Test.YtefiabakfpfbaaaQResetBothWQPut
import Derived.Test.YtefiabakfpfbaaaQResetBothWApart
import Derived.Test.YtefiabakfpfbaaaQResetBothWArr
import Derived.Test.YtefiabakfpfbaaaQResetBothWZeros
import Derived.Test.YtefiabakfpfbaaaQResetBothWFoot
import Derived.Test.YtefiabakfpfbaaaQResetBothWKept
import Derived.Test.YtefiabakfpfbaaaQResetBothWShare
import Derived.Test.YtefiabakfpfbaaaQResetBothWN
import Derived.Test.YtefiabakfpfbaaaQResetBothWFootNe
import Derived.Test.YtefiabakfpfbaaaQResetBothWAt
import Derived.Test.YtefiabakfpfbaaaQResetBothWEqStruct
import Derived.Test.YtefiabakfpfbaaaQResetBothWRepsOne
import Derived.Test.YtefiabakfpfbaaaQResetBothWInv
import Derived.Test.YtefiabakfpfbaaaQResetBothWInvWords
import Derived.Test.YtefiabakfpfbaaaQResetBothWGuard
import Derived.Test.YtefiabakfpfbaaaQResetBothWNEv
import Derived.Test.YtefiabakfpfbaaaQResetBothWMore
import Derived.Test.YtefiabakfpfbaaaRows
import Derived.Test.YtefiabakfpfbaaaQResetBoth0
import Derived.Test.YtefiabakfpfbaaaQResetBoth1
set_option linter.unusedVariables false
set_option linter.unusedSimpArgs false
namespace Go.Proofs.Ytefiabakfpfbaaa.P
open Go.RowKit Go.Shelf Go.Proofs.YtefiabakfpfbaaaW.PrintWords Go.Proofs.YtefiabakfpfbaaaW.PrintLast Go.Proofs.YtefiabakfpfbaaaW.PrintMore
theorem heads_eq (s z ct zc t o c zz : Int) : reset_heads.f s z ct zc t o c zz = some (numsV s t z o ct c zc zz) := by
  unfold reset_heads.f numsV
  by_cases h1 : s = t <;> by_cases h2 : z = o <;> by_cases h3 : c < ct <;> by_cases h4 : zz < zc <;> simp [h1, h2, h3, h4]
theorem SI.slc {α : Type} {d : Kd α} {w : World} {v : Value} {l : List α} (h : SI d w v l) : ∃ A c, v = .slice A l.length c := by
  obtain ⟨A, c, e, -⟩ := h
  exact ⟨A, c, e⟩
theorem lessI_c (a b : List Pr) (ha : Ups (fun q : Pr => q.f0) a) (hb : Ups (fun q : Pr => q.f0) b) (hm : a.length ≤ 4096) (w : World) (u v : Value) (hu : SI kPr w u a) (hv : SI kPr w v b) : Calls Try.prog 113 #[u, v] w fun e w' => e = .returned (.tuple #[.int .i64 (lessI a b).1, .bool (lessI a b).2]) ∧ Below w.heap.size w w' := by
  obtain ⟨A, c, rfl, hc, hr⟩ := hu
  obtain ⟨B, d, rfl, hd, hs⟩ := hv
  exact reset_less_int64.calls (a.length * 5 + b.length + 2) A c a (fun k => k < w.heap.size) B d b (lessI a b).1 (lessI a b).2 w hr hc ⟨_, _, rfl, hd, Kd.C_F (show Kd.Heap k130 from Kd.heap_iso _ (Kd.heap_pair (Kd.heap_int .i64) (Kd.heap_int .i64))) hs⟩ (lessI_eq a b ha hb (by omega) _ (by omega))
set_option maxHeartbeats 4000000 in
set_option maxRecDepth 100000 in
theorem verdictI_c (why : Int) (a0 a1 b0 b1 : List Pr) (l0 : ∀ w u v, SI kPr w u a0 → SI kPr w v b0 → Calls Try.prog 113 #[u, v] w fun e w' => e = .returned (.tuple #[.int .i64 (lessI a0 b0).1, .bool (lessI a0 b0).2]) ∧ Below w.heap.size w w')
    (l1 : ∀ w u v, SI kPr w u a1 → SI kPr w v b1 → Calls Try.prog 113 #[u, v] w fun e w' => e = .returned (.tuple #[.int .i64 (lessI a1 b1).1, .bool (lessI a1 b1).2]) ∧ Below w.heap.size w w')
    (w : World) (u0 u1 v0 v1 : Value) (hu0 : SI kPr w u0 a0) (hu1 : SI kPr w u1 a1) (hv0 : SI kPr w v0 b0) (hv1 : SI kPr w v1 b1) : Calls Try.prog 74 #[.int .i64 why, .agg #[u0, u1], .agg #[v0, v1]] w fun e w' =>
    e = .returned (.agg #[.int .i64 (verdR why (lessI a0 b0) (lessI a1 b1)).1, .int .i64 (verdR why (lessI a0 b0) (lessI a1 b1)).2]) ∧ Below w.heap.size w w' := by
  have hua := Try.underlying115
  have huv := Try.underlying57
  generalize lessI a0 b0 = r0 at *
  generalize lessI a1 b1 = r1 at *
  obtain ⟨p, ok⟩ := r0
  obtain ⟨q, ok1⟩ := r1
  simp only at l0 l1
  have L0 := Aside0.mk l0
  have L1 := Aside0.mk l1
  clear l0 l1
  have hu0' := hu0; have hu1' := hu1; have hv0' := hv0; have hv1' := hv1
  obtain ⟨A0, c0, e0, -⟩ := hu0'; subst e0
  obtain ⟨A1, c1, e1, -⟩ := hu1'; subst e1
  obtain ⟨D0, d0, e2, -⟩ := hv0'; subst e2
  obtain ⟨D1, d1, e3, -⟩ := hv1'; subst e3
  have B := Aside0.mk (below_alloc (below_alloc (below_alloc (Below.refl w.heap.size w) (.cells #[.slice A0 a0.length c0, .slice A1 a1.length c1] 115)) (.cells #[.slice D0 b0.length d0, .slice D1 b1.length d1] 115)) (.cells #[.int .i64 0, .int .i64 0] 57))
  have X := Aside0.mk (((Blk.new w #[.slice A0 a0.length c0, .slice A1 a1.length c1] 115).alloc (.cells #[.slice D0 b0.length d0, .slice D1 b1.length d1] 115)).alloc (.cells #[.int .i64 0, .int .i64 0] 57))
  have Y := Aside0.mk ((Blk.at1 (w := w) (.cells #[.slice A0 a0.length c0, .slice A1 a1.length c1] 115) #[.slice D0 b0.length d0, .slice D1 b1.length d1] 115).alloc (.cells #[.int .i64 0, .int .i64 0] 57))
  have Z := Aside0.mk (show Blk (((w.alloc (.cells #[.slice A0 a0.length c0, .slice A1 a1.length c1] 115)).alloc (.cells #[.slice D0 b0.length d0, .slice D1 b1.length d1] 115)).alloc (.cells #[.int .i64 0, .int .i64 0] 57)) (w.heap.size + 1 + 1) #[.int .i64 0, .int .i64 0] 57 by have := Blk.new ((w.alloc (.cells #[.slice A0 a0.length c0, .slice A1 a1.length c1] 115)).alloc (.cells #[.slice D0 b0.length d0, .slice D1 b1.length d1] 115)) #[.int .i64 0, .int .i64 0] 57; simpa using this)
  have hx := fun i => X.out.cell i
  have hy := fun i => Y.out.cell i
  have hz := fun i => Z.out.cell i
  have zz := fun i => blk_frozen Z.out i
  have SA0 := Aside0.mk (hu0.below B.out)
  have SA1 := Aside0.mk (hu1.below B.out)
  have SB0 := Aside0.mk (hv0.below B.out)
  have SB1 := Aside0.mk (hv1.below B.out)
  clear hu0 hu1 hv0 hv1
  unfold verdR
  by_cases cw : why = 0
  rotate_left
  · rw [if_pos cw]
    have cw1 : (why != 0) = true := bne_iff_ne.2 cw
    clear cw
    go_enter Try.func74, Try.ntmps74
    go_wp2
    refine bodyPost_ret (results_cell_row rfl _ _ (w.heap.size + 1 + 1) 57 #[.int .i64 why, .int .i64 0] (0, 0) _ rfl (show Blk _ _ _ _ by have := Blk.new ((w.alloc (.cells #[.slice A0 a0.length c0, .slice A1 a1.length c1] 115)).alloc (.cells #[.slice D0 b0.length d0, .slice D1 b1.length d1] 115)) #[.int .i64 why, .int .i64 0] 57; simpa using this) Try.underlying57 rfl (by kernel_rfl)) rfl ?_
    exact ⟨rfl, below_alloc (below_alloc (below_alloc (Below.refl _ _) _) _) _⟩
  rw [if_neg (by simp [cw])]
  have cw1 : (why != 0) = false := by rw [cw]; rfl
  subst cw
  cases ok with
  | true =>
    simp only [if_true]
    go_enter Try.func74, Try.ntmps74
    go_wp2_with (first | (go_at_call 113; (with_reducible refine (L0.out _ _ _ SA0.out SB0.out).mono ?_); rintro e W1 ⟨rfl, hb⟩; replace B := Aside0.mk (below_then B.out B.out.size hb); replace SA0 := Aside0.mk (SA0.out.below hb); replace SA1 := Aside0.mk (SA1.out.below hb); replace SB0 := Aside0.mk (SB0.out.below hb); replace SB1 := Aside0.mk (SB1.out.below hb); replace X := Aside0.mk (X.out.below hb); replace hx := fun i => X.out.cell i; replace Y := Aside0.mk (Y.out.below hb); replace hy := fun i => Y.out.cell i; replace Z := Aside0.mk (Z.out.below hb); replace hz := fun i => Z.out.cell i; replace zz := fun i => blk_frozen Z.out i; clear  hb))
    refine bodyPost_ret (results_cell_row rfl _ _ (w.heap.size + 1 + 1) 57 #[_, _] (0, 0) _ rfl (blk_put (blk_put Z.out 0 _ rfl) 1 _ rfl) Try.underlying57 rfl (by kernel_rfl)) rfl ?_
    exact ⟨rfl, belowS B.out.size B.out (by omega)⟩
  | false =>
    cases ok1 with
    | true =>
      simp only [if_true, Bool.false_eq_true, if_false]
      go_enter Try.func74, Try.ntmps74
      go_wp2_with (first | (go_at_call 113; (with_reducible refine (L0.out _ _ _ SA0.out SB0.out).mono ?_); rintro e W1 ⟨rfl, hb⟩; replace B := Aside0.mk (below_then B.out B.out.size hb); replace SA0 := Aside0.mk (SA0.out.below hb); replace SA1 := Aside0.mk (SA1.out.below hb); replace SB0 := Aside0.mk (SB0.out.below hb); replace SB1 := Aside0.mk (SB1.out.below hb); replace X := Aside0.mk (X.out.below hb); replace hx := fun i => X.out.cell i; replace Y := Aside0.mk (Y.out.below hb); replace hy := fun i => Y.out.cell i; replace Z := Aside0.mk (Z.out.below hb); replace hz := fun i => Z.out.cell i; replace zz := fun i => blk_frozen Z.out i; clear  hb) | (go_at_call 113; (with_reducible refine (L1.out _ _ _ SA1.out SB1.out).mono ?_); rintro e W2 ⟨rfl, hb⟩; replace B := Aside0.mk (below_then B.out B.out.size hb); replace SA0 := Aside0.mk (SA0.out.below hb); replace SA1 := Aside0.mk (SA1.out.below hb); replace SB0 := Aside0.mk (SB0.out.below hb); replace SB1 := Aside0.mk (SB1.out.below hb); replace X := Aside0.mk (X.out.below hb); replace hx := fun i => X.out.cell i; replace Y := Aside0.mk (Y.out.below hb); replace hy := fun i => Y.out.cell i; replace Z := Aside0.mk (Z.out.below hb); replace hz := fun i => Z.out.cell i; replace zz := fun i => blk_frozen Z.out i; clear  hb))
      refine bodyPost_ret (results_cell_row rfl _ _ (w.heap.size + 1 + 1) 57 #[_, _] (0, 0) _ rfl (blk_put (blk_put Z.out 0 _ rfl) 1 _ rfl) Try.underlying57 rfl (by kernel_rfl)) rfl ?_
      exact ⟨rfl, belowS B.out.size B.out (by omega)⟩
    | false =>
      simp only [Bool.false_eq_true, if_false]
      go_enter Try.func74, Try.ntmps74
      go_wp2_with (first | (go_at_call 113; (with_reducible refine (L0.out _ _ _ SA0.out SB0.out).mono ?_); rintro e W1 ⟨rfl, hb⟩; replace B := Aside0.mk (below_then B.out B.out.size hb); replace SA0 := Aside0.mk (SA0.out.below hb); replace SA1 := Aside0.mk (SA1.out.below hb); replace SB0 := Aside0.mk (SB0.out.below hb); replace SB1 := Aside0.mk (SB1.out.below hb); replace X := Aside0.mk (X.out.below hb); replace hx := fun i => X.out.cell i; replace Y := Aside0.mk (Y.out.below hb); replace hy := fun i => Y.out.cell i; replace Z := Aside0.mk (Z.out.below hb); replace hz := fun i => Z.out.cell i; replace zz := fun i => blk_frozen Z.out i; clear  hb) | (go_at_call 113; (with_reducible refine (L1.out _ _ _ SA1.out SB1.out).mono ?_); rintro e W2 ⟨rfl, hb⟩; replace B := Aside0.mk (below_then B.out B.out.size hb); replace SA0 := Aside0.mk (SA0.out.below hb); replace SA1 := Aside0.mk (SA1.out.below hb); replace SB0 := Aside0.mk (SB0.out.below hb); replace SB1 := Aside0.mk (SB1.out.below hb); replace X := Aside0.mk (X.out.below hb); replace hx := fun i => X.out.cell i; replace Y := Aside0.mk (Y.out.below hb); replace hy := fun i => Y.out.cell i; replace Z := Aside0.mk (Z.out.below hb); replace hz := fun i => Z.out.cell i; replace zz := fun i => blk_frozen Z.out i; clear  hb))
      refine bodyPost_ret (results_cell_row rfl _ _ (w.heap.size + 1 + 1) 57 #[_, _] (0, 0) _ rfl (blk_put (blk_put Z.out 0 _ rfl) 1 _ rfl) Try.underlying57 rfl (by kernel_rfl)) rfl ?_
      exact ⟨rfl, belowS B.out.size B.out (by omega)⟩
theorem headsI_c (a b : Hi) (w : World) : Calls Try.prog 75 #[.agg #[.int .i64 a.f0, .int .u64 a.f1, .int .u64 a.f3, .int .u64 a.f2], .agg #[.int .i64 b.f0, .int .u64 b.f1, .int .u64 b.f3, .int .u64 b.f2]] w fun e w' => e = .returned (.int .i64 (headsR a b)) ∧ Below w.heap.size w w' :=
  reset_heads.calls _ _ _ _ _ _ _ _ _ w (heads_eq _ _ _ _ _ _ _ _)
set_option maxHeartbeats 16000000 in
set_option maxRecDepth 100000 in
theorem resetI_c (a b : Hi) (hwa : wfH a) (hwb : wfH b) (w : World) (u v : Value) (hu : HI w u a) (hv : HI w v b) : Calls Try.prog 26 #[u, v] w fun e w' =>
    e = .returned (.tuple #[.agg #[.int .i64 (intsR a b).1.1, .int .i64 (intsR a b).1.2], .int .i64 (intsR a b).2]) ∧ Below w.heap.size w w' := by
  have hud := Try.underlying26
  have hua := Try.underlying115
  have huv := Try.underlying57
  have ka := sidesI_c a hwa
  have kb := sidesI_c b hwb
  have hd := headsI_c a b
  have ra := openR_row hwa
  have rb := openR_row hwb
  have vd := verdictI_c (headsR a b) (openR a).1 (openR a).2.1 (openR b).1 (openR b).2.1 (lessI_c _ _ ra.1.ups rb.1.ups ra.1.len) (lessI_c _ _ ra.2.ups rb.2.ups ra.2.len)
  unfold intsR intsV
  generalize verdR (headsR a b) (lessI (openR a).1 (openR b).1) (lessI (openR a).2.1 (openR b).2.1) = r at *
  obtain ⟨r1, r2⟩ := r
  generalize headsR a b = hd0 at *
  generalize (openR a).1 = x0 at *
  generalize (openR a).2.1 = x1 at *
  generalize (openR b).1 = y0 at *
  generalize (openR b).2.1 = y1 at *
  generalize checkR a = ea at *
  generalize checkR b = eb at *
  have KA := Aside0.mk ka
  have KB := Aside0.mk kb
  have HD := Aside0.mk hd
  have VD := Aside0.mk vd
  clear ka kb hd vd ra rb hwa hwb
  obtain ⟨A5a, c5a, A6a, c6a, A7a, c7a, A8a, c8a, e, -⟩ := hu.open_
  subst e
  obtain ⟨A5b, c5b, A6b, c6b, A7b, c7b, A8b, c8b, e, -⟩ := hv.open_
  subst e
  have B := Aside0.mk (below_alloc (below_alloc (below_alloc (Below.refl w.heap.size w) (.cells #[.int .i64 a.f0, .int .u64 a.f1, .int .u64 a.f2, .int .u64 a.f3, .int .u64 a.f4, .slice A5a a.f5.length c5a, .slice A6a a.f6.length c6a, .slice A7a a.f7.length c7a, .slice A8a a.f8.length c8a] 26)) (.cells #[.int .i64 b.f0, .int .u64 b.f1, .int .u64 b.f2, .int .u64 b.f3, .int .u64 b.f4, .slice A5b b.f5.length c5b, .slice A6b b.f6.length c6b, .slice A7b b.f7.length c7b, .slice A8b b.f8.length c8b] 26)) (.cells #[.int .i64 0, .int .i64 0] 57))
  have X := Aside0.mk (((Blk.new w #[.int .i64 a.f0, .int .u64 a.f1, .int .u64 a.f2, .int .u64 a.f3, .int .u64 a.f4, .slice A5a a.f5.length c5a, .slice A6a a.f6.length c6a, .slice A7a a.f7.length c7a, .slice A8a a.f8.length c8a] 26).alloc (.cells #[.int .i64 b.f0, .int .u64 b.f1, .int .u64 b.f2, .int .u64 b.f3, .int .u64 b.f4, .slice A5b b.f5.length c5b, .slice A6b b.f6.length c6b, .slice A7b b.f7.length c7b, .slice A8b b.f8.length c8b] 26)).alloc (.cells #[.int .i64 0, .int .i64 0] 57))
  have Y := Aside0.mk ((Blk.at1 (w := w) (.cells #[.int .i64 a.f0, .int .u64 a.f1, .int .u64 a.f2, .int .u64 a.f3, .int .u64 a.f4, .slice A5a a.f5.length c5a, .slice A6a a.f6.length c6a, .slice A7a a.f7.length c7a, .slice A8a a.f8.length c8a] 26) #[.int .i64 b.f0, .int .u64 b.f1, .int .u64 b.f2, .int .u64 b.f3, .int .u64 b.f4, .slice A5b b.f5.length c5b, .slice A6b b.f6.length c6b, .slice A7b b.f7.length c7b, .slice A8b b.f8.length c8b] 26).alloc (.cells #[.int .i64 0, .int .i64 0] 57))
  have Z := Aside0.mk (show Blk (((w.alloc (.cells #[.int .i64 a.f0, .int .u64 a.f1, .int .u64 a.f2, .int .u64 a.f3, .int .u64 a.f4, .slice A5a a.f5.length c5a, .slice A6a a.f6.length c6a, .slice A7a a.f7.length c7a, .slice A8a a.f8.length c8a] 26)).alloc (.cells #[.int .i64 b.f0, .int .u64 b.f1, .int .u64 b.f2, .int .u64 b.f3, .int .u64 b.f4, .slice A5b b.f5.length c5b, .slice A6b b.f6.length c6b, .slice A7b b.f7.length c7b, .slice A8b b.f8.length c8b] 26)).alloc (.cells #[.int .i64 0, .int .i64 0] 57)) (w.heap.size + 1 + 1) #[.int .i64 0, .int .i64 0] 57 by have := Blk.new ((w.alloc (.cells #[.int .i64 a.f0, .int .u64 a.f1, .int .u64 a.f2, .int .u64 a.f3, .int .u64 a.f4, .slice A5a a.f5.length c5a, .slice A6a a.f6.length c6a, .slice A7a a.f7.length c7a, .slice A8a a.f8.length c8a] 26)).alloc (.cells #[.int .i64 b.f0, .int .u64 b.f1, .int .u64 b.f2, .int .u64 b.f3, .int .u64 b.f4, .slice A5b b.f5.length c5b, .slice A6b b.f6.length c6b, .slice A7b b.f7.length c7b, .slice A8b b.f8.length c8b] 26)) #[.int .i64 0, .int .i64 0] 57; simpa using this)
  have hx := fun i => X.out.cell i
  have hy := fun i => Y.out.cell i
  have hz := fun i => Z.out.cell i
  have zz := fun i => blk_frozen Z.out i
  have HA := Aside0.mk (hu.below B.out)
  have HC := Aside0.mk (hv.below B.out)
  clear hu hv
  by_cases c1 : ea = 0
  rotate_left
  · rw [if_pos c1]
    have d1 : (ea != 0) = true := bne_iff_ne.2 c1
    clear c1
    go_enter Try.func26, Try.ntmps26
    go_wp2_with (first | (go_at_call 72; (with_reducible refine (KA.out _ _ HA.out).mono ?_); rintro e W1 ⟨v0, v1, rfl, h0, h1, hb⟩; replace B := Aside0.mk (below_then B.out B.out.size hb); replace HA := Aside0.mk (HA.out.below hb); replace HC := Aside0.mk (HC.out.below hb); replace X := Aside0.mk (X.out.below hb); replace hx := fun i => X.out.cell i; replace Y := Aside0.mk (Y.out.below hb); replace hy := fun i => Y.out.cell i; replace Z := Aside0.mk (Z.out.below hb); replace hz := fun i => Z.out.cell i; replace zz := fun i => blk_frozen Z.out i; have SA0 := Aside0.mk h0; have SA1 := Aside0.mk h1; have e0' := SA0.out; have e1' := SA1.out; obtain ⟨P0, q0, e0⟩ := e0'.slc; subst e0; obtain ⟨P1, q1, e1⟩ := e1'.slc; subst e1; have hsz1 := blk_lt Z.out; have hxa := fun i => (X.out.alloc (.cells #[.slice P0 x0.length q0, .slice P1 x1.length q1] 115)).cell i; have hya := fun i => (Y.out.alloc (.cells #[.slice P0 x0.length q0, .slice P1 x1.length q1] 115)).cell i; have hza := fun i => (Z.out.alloc (.cells #[.slice P0 x0.length q0, .slice P1 x1.length q1] 115)).cell i; clear h0 h1 hb; have zza := fun i => blk_frozen (Z.out.alloc (.cells #[.slice P0 x0.length q0, .slice P1 x1.length q1] 115)) i))
    refine bodyPost_ret (results_ct rfl _ _ (w.heap.size + 1 + 1) 57 #[_, _] (0, 0) _ rfl (Blk.alloc (show Blk _ _ _ _ from blk_put (blk_put Z.out 0 _ rfl) 1 _ rfl) _) Try.underlying57 rfl (by kernel_rfl)) rfl ?_
    exact ⟨rfl, below_alloc (belowS B.out.size B.out (by omega)) _⟩
  subst c1
  rw [if_neg (by simp)]
  by_cases c2 : eb = 0
  rotate_left
  · rw [if_pos c2]
    have d2 : (eb != 0) = true := bne_iff_ne.2 c2
    clear c2
    go_enter Try.func26, Try.ntmps26
    go_wp2_with (first | (go_at_call 72; (with_reducible refine (KA.out _ _ HA.out).mono ?_); rintro e W1 ⟨v0, v1, rfl, h0, h1, hb⟩; replace B := Aside0.mk (below_then B.out B.out.size hb); replace HA := Aside0.mk (HA.out.below hb); replace HC := Aside0.mk (HC.out.below hb); replace X := Aside0.mk (X.out.below hb); replace hx := fun i => X.out.cell i; replace Y := Aside0.mk (Y.out.below hb); replace hy := fun i => Y.out.cell i; replace Z := Aside0.mk (Z.out.below hb); replace hz := fun i => Z.out.cell i; replace zz := fun i => blk_frozen Z.out i; have SA0 := Aside0.mk h0; have SA1 := Aside0.mk h1; have e0' := SA0.out; have e1' := SA1.out; obtain ⟨P0, q0, e0⟩ := e0'.slc; subst e0; obtain ⟨P1, q1, e1⟩ := e1'.slc; subst e1; have hsz1 := blk_lt Z.out; have hxa := fun i => (X.out.alloc (.cells #[.slice P0 x0.length q0, .slice P1 x1.length q1] 115)).cell i; have hya := fun i => (Y.out.alloc (.cells #[.slice P0 x0.length q0, .slice P1 x1.length q1] 115)).cell i; have hza := fun i => (Z.out.alloc (.cells #[.slice P0 x0.length q0, .slice P1 x1.length q1] 115)).cell i; clear h0 h1 hb))
    (try clear hxa hya hza)
    have hal := below_alloc (Below.refl W1.heap.size W1) (.cells #[.slice P0 x0.length q0, .slice P1 x1.length q1] 115)
    replace B := Aside0.mk (below_then B.out B.out.size hal)
    replace HA := Aside0.mk (HA.out.below hal)
    replace HC := Aside0.mk (HC.out.below hal)
    replace SA0 := Aside0.mk (SA0.out.below hal)
    replace SA1 := Aside0.mk (SA1.out.below hal)
    replace X := Aside0.mk (X.out.alloc (.cells #[.slice P0 x0.length q0, .slice P1 x1.length q1] 115)); replace hx := fun i => X.out.cell i
    replace Y := Aside0.mk (Y.out.alloc (.cells #[.slice P0 x0.length q0, .slice P1 x1.length q1] 115)); replace hy := fun i => Y.out.cell i
    replace Z := Aside0.mk (Z.out.alloc (.cells #[.slice P0 x0.length q0, .slice P1 x1.length q1] 115)); replace hz := fun i => Z.out.cell i
    have U := Aside0.mk (Blk.new W1 #[.slice P0 x0.length q0, .slice P1 x1.length q1] 115); have hu := fun i => U.out.cell i; clear hal
    go_wp2_with (first | (go_at_call 72; (with_reducible refine (KB.out _ _ HC.out).mono ?_); rintro e W2 ⟨v2, v3, rfl, h0, h1, hb⟩; replace B := Aside0.mk (below_then B.out B.out.size hb); replace HA := Aside0.mk (HA.out.below hb); replace HC := Aside0.mk (HC.out.below hb); replace SA0 := Aside0.mk (SA0.out.below hb); replace SA1 := Aside0.mk (SA1.out.below hb); replace X := Aside0.mk (X.out.below hb); replace hx := fun i => X.out.cell i; replace Y := Aside0.mk (Y.out.below hb); replace hy := fun i => Y.out.cell i; replace Z := Aside0.mk (Z.out.below hb); replace hz := fun i => Z.out.cell i; replace zz := fun i => blk_frozen Z.out i; replace U := Aside0.mk (U.out.below hb); replace hu := fun i => U.out.cell i; have SB0 := Aside0.mk h0; have SB1 := Aside0.mk h1; have e0' := SB0.out; have e1' := SB1.out; obtain ⟨P2, q2, e0⟩ := e0'.slc; subst e0; obtain ⟨P3, q3, e1⟩ := e1'.slc; subst e1; have hsz2 := blk_lt Z.out; have hxa := fun i => (X.out.alloc (.cells #[.slice P2 y0.length q2, .slice P3 y1.length q3] 115)).cell i; have hya := fun i => (Y.out.alloc (.cells #[.slice P2 y0.length q2, .slice P3 y1.length q3] 115)).cell i; have hza := fun i => (Z.out.alloc (.cells #[.slice P2 y0.length q2, .slice P3 y1.length q3] 115)).cell i; have hua := fun i => (U.out.alloc (.cells #[.slice P2 y0.length q2, .slice P3 y1.length q3] 115)).cell i; clear h0 h1 hb; have zza := fun i => blk_frozen (Z.out.alloc (.cells #[.slice P2 y0.length q2, .slice P3 y1.length q3] 115)) i))
    refine bodyPost_ret (results_ct rfl _ _ (w.heap.size + 1 + 1) 57 #[_, _] (0, 0) _ rfl (Blk.alloc (show Blk _ _ _ _ from blk_put (blk_put Z.out 0 _ rfl) 1 _ rfl) _) Try.underlying57 rfl (by kernel_rfl)) rfl ?_
    exact ⟨rfl, below_alloc (belowS B.out.size B.out (by omega)) _⟩
  subst c2
  rw [if_neg (by simp)]
  go_enter Try.func26, Try.ntmps26
  go_wp2_with (first | (go_at_call 72; (with_reducible refine (KA.out _ _ HA.out).mono ?_); rintro e W1 ⟨v0, v1, rfl, h0, h1, hb⟩; replace B := Aside0.mk (below_then B.out B.out.size hb); replace HA := Aside0.mk (HA.out.below hb); replace HC := Aside0.mk (HC.out.below hb); replace X := Aside0.mk (X.out.below hb); replace hx := fun i => X.out.cell i; replace Y := Aside0.mk (Y.out.below hb); replace hy := fun i => Y.out.cell i; replace Z := Aside0.mk (Z.out.below hb); replace hz := fun i => Z.out.cell i; replace zz := fun i => blk_frozen Z.out i; have SA0 := Aside0.mk h0; have SA1 := Aside0.mk h1; have e0' := SA0.out; have e1' := SA1.out; obtain ⟨P0, q0, e0⟩ := e0'.slc; subst e0; obtain ⟨P1, q1, e1⟩ := e1'.slc; subst e1; have hsz1 := blk_lt Z.out; have hxa := fun i => (X.out.alloc (.cells #[.slice P0 x0.length q0, .slice P1 x1.length q1] 115)).cell i; have hya := fun i => (Y.out.alloc (.cells #[.slice P0 x0.length q0, .slice P1 x1.length q1] 115)).cell i; have hza := fun i => (Z.out.alloc (.cells #[.slice P0 x0.length q0, .slice P1 x1.length q1] 115)).cell i; clear h0 h1 hb))
  (try clear hxa hya hza)
  have hal := below_alloc (Below.refl W1.heap.size W1) (.cells #[.slice P0 x0.length q0, .slice P1 x1.length q1] 115)
  replace B := Aside0.mk (below_then B.out B.out.size hal)
  replace HA := Aside0.mk (HA.out.below hal)
  replace HC := Aside0.mk (HC.out.below hal)
  replace SA0 := Aside0.mk (SA0.out.below hal)
  replace SA1 := Aside0.mk (SA1.out.below hal)
  replace X := Aside0.mk (X.out.alloc (.cells #[.slice P0 x0.length q0, .slice P1 x1.length q1] 115)); replace hx := fun i => X.out.cell i
  replace Y := Aside0.mk (Y.out.alloc (.cells #[.slice P0 x0.length q0, .slice P1 x1.length q1] 115)); replace hy := fun i => Y.out.cell i
  replace Z := Aside0.mk (Z.out.alloc (.cells #[.slice P0 x0.length q0, .slice P1 x1.length q1] 115)); replace hz := fun i => Z.out.cell i
  have U := Aside0.mk (Blk.new W1 #[.slice P0 x0.length q0, .slice P1 x1.length q1] 115); have hu := fun i => U.out.cell i; clear hal
  go_wp2_with (first | (go_at_call 72; (with_reducible refine (KB.out _ _ HC.out).mono ?_); rintro e W2 ⟨v2, v3, rfl, h0, h1, hb⟩; replace B := Aside0.mk (below_then B.out B.out.size hb); replace HA := Aside0.mk (HA.out.below hb); replace HC := Aside0.mk (HC.out.below hb); replace SA0 := Aside0.mk (SA0.out.below hb); replace SA1 := Aside0.mk (SA1.out.below hb); replace X := Aside0.mk (X.out.below hb); replace hx := fun i => X.out.cell i; replace Y := Aside0.mk (Y.out.below hb); replace hy := fun i => Y.out.cell i; replace Z := Aside0.mk (Z.out.below hb); replace hz := fun i => Z.out.cell i; replace zz := fun i => blk_frozen Z.out i; replace U := Aside0.mk (U.out.below hb); replace hu := fun i => U.out.cell i; have SB0 := Aside0.mk h0; have SB1 := Aside0.mk h1; have e0' := SB0.out; have e1' := SB1.out; obtain ⟨P2, q2, e0⟩ := e0'.slc; subst e0; obtain ⟨P3, q3, e1⟩ := e1'.slc; subst e1; have hsz2 := blk_lt Z.out; have hxa := fun i => (X.out.alloc (.cells #[.slice P2 y0.length q2, .slice P3 y1.length q3] 115)).cell i; have hya := fun i => (Y.out.alloc (.cells #[.slice P2 y0.length q2, .slice P3 y1.length q3] 115)).cell i; have hza := fun i => (Z.out.alloc (.cells #[.slice P2 y0.length q2, .slice P3 y1.length q3] 115)).cell i; have hua := fun i => (U.out.alloc (.cells #[.slice P2 y0.length q2, .slice P3 y1.length q3] 115)).cell i; clear h0 h1 hb))
  (try clear hxa hya hza hua)
  have hal := below_alloc (Below.refl W2.heap.size W2) (.cells #[.slice P2 y0.length q2, .slice P3 y1.length q3] 115)
  replace B := Aside0.mk (below_then B.out B.out.size hal)
  replace HA := Aside0.mk (HA.out.below hal)
  replace HC := Aside0.mk (HC.out.below hal)
  replace SA0 := Aside0.mk (SA0.out.below hal)
  replace SA1 := Aside0.mk (SA1.out.below hal)
  replace SB0 := Aside0.mk (SB0.out.below hal)
  replace SB1 := Aside0.mk (SB1.out.below hal)
  replace X := Aside0.mk (X.out.alloc (.cells #[.slice P2 y0.length q2, .slice P3 y1.length q3] 115)); replace hx := fun i => X.out.cell i
  replace Y := Aside0.mk (Y.out.alloc (.cells #[.slice P2 y0.length q2, .slice P3 y1.length q3] 115)); replace hy := fun i => Y.out.cell i
  replace Z := Aside0.mk (Z.out.alloc (.cells #[.slice P2 y0.length q2, .slice P3 y1.length q3] 115)); replace hz := fun i => Z.out.cell i
  replace U := Aside0.mk (U.out.alloc (.cells #[.slice P2 y0.length q2, .slice P3 y1.length q3] 115)); replace hu := fun i => U.out.cell i
  have V := Aside0.mk (Blk.new W2 #[.slice P2 y0.length q2, .slice P3 y1.length q3] 115); have hv := fun i => V.out.cell i; clear hal
  replace HA := Aside0.mk (HA.out.below (below_drew (Below.refl _ _)))
  replace HC := Aside0.mk (HC.out.below (below_drew (Below.refl _ _)))
  replace SA0 := Aside0.mk (SA0.out.below (below_drew (Below.refl _ _)))
  replace SA1 := Aside0.mk (SA1.out.below (below_drew (Below.refl _ _)))
  replace SB0 := Aside0.mk (SB0.out.below (below_drew (Below.refl _ _)))
  replace SB1 := Aside0.mk (SB1.out.below (below_drew (Below.refl _ _)))
  replace X := Aside0.mk (X.out.below (below_drew (Below.refl _ _)))
  replace Y := Aside0.mk (Y.out.below (below_drew (Below.refl _ _)))
  replace Z := Aside0.mk (Z.out.below (below_drew (Below.refl _ _)))
  replace U := Aside0.mk (U.out.below (below_drew (Below.refl _ _)))
  replace V := Aside0.mk (V.out.below (below_drew (Below.refl _ _)))
  replace B := Aside0.mk (below_drew B.out)
  go_region_held3 (fun W => (∀ i, W.cell? ⟨w.heap.size, i, none⟩ = (#[.int .i64 a.f0, .int .u64 a.f1, .int .u64 a.f2, .int .u64 a.f3, .int .u64 a.f4, .slice A5a a.f5.length c5a, .slice A6a a.f6.length c6a, .slice A7a a.f7.length c7a, .slice A8a a.f8.length c8a] : Array Value)[i]?) ∧ (∀ i, W.cell? ⟨w.heap.size + 1, i, none⟩ = (#[.int .i64 b.f0, .int .u64 b.f1, .int .u64 b.f2, .int .u64 b.f3, .int .u64 b.f4, .slice A5b b.f5.length c5b, .slice A6b b.f6.length c6b, .slice A7b b.f7.length c7b, .slice A8b b.f8.length c8b] : Array Value)[i]?) ∧ (∀ i, W.cell? ⟨W1.heap.size, i, none⟩ = (#[.slice P0 x0.length q0, .slice P1 x1.length q1] : Array Value)[i]?) ∧ (∀ i, W.cell? ⟨W2.heap.size, i, none⟩ = (#[.slice P2 y0.length q2, .slice P3 y1.length q3] : Array Value)[i]?)) (first | exact ⟨fun i => X.out.cell i, fun i => Y.out.cell i, fun i => U.out.cell i, fun i => V.out.cell i⟩ | exact ⟨fun i => blk_cell (blk_far X.out (by show w.heap.size ≠ w.heap.size + 1 + 1; omega) _) i, fun i => blk_cell (blk_far Y.out (by show w.heap.size + 1 ≠ w.heap.size + 1 + 1; omega) _) i, fun i => blk_cell (blk_far U.out (by show W1.heap.size ≠ w.heap.size + 1 + 1; omega) _) i, fun i => blk_cell (blk_far V.out (by show W2.heap.size ≠ w.heap.size + 1 + 1; omega) _) i⟩ | exact ⟨fun i => blk_cell (blk_far (blk_far X.out (by show w.heap.size ≠ w.heap.size + 1 + 1; omega) _) (by show w.heap.size ≠ w.heap.size + 1 + 1; omega) _) i, fun i => blk_cell (blk_far (blk_far Y.out (by show w.heap.size + 1 ≠ w.heap.size + 1 + 1; omega) _) (by show w.heap.size + 1 ≠ w.heap.size + 1 + 1; omega) _) i, fun i => blk_cell (blk_far (blk_far U.out (by show W1.heap.size ≠ w.heap.size + 1 + 1; omega) _) (by show W1.heap.size ≠ w.heap.size + 1 + 1; omega) _) i, fun i => blk_cell (blk_far (blk_far V.out (by show W2.heap.size ≠ w.heap.size + 1 + 1; omega) _) (by show W2.heap.size ≠ w.heap.size + 1 + 1; omega) _) i⟩) (first | (go_at_call 75; (with_reducible refine (HD.out _).mono ?_); rintro e W3 ⟨rfl, hb⟩; replace B := Aside0.mk (below_then B.out B.out.size hb); replace HA := Aside0.mk (HA.out.below hb); replace HC := Aside0.mk (HC.out.below hb); replace SA0 := Aside0.mk (SA0.out.below hb); replace SA1 := Aside0.mk (SA1.out.below hb); replace SB0 := Aside0.mk (SB0.out.below hb); replace SB1 := Aside0.mk (SB1.out.below hb); replace X := Aside0.mk (X.out.below hb); replace hx := fun i => X.out.cell i; replace Y := Aside0.mk (Y.out.below hb); replace hy := fun i => Y.out.cell i; replace Z := Aside0.mk (Z.out.below hb); replace hz := fun i => Z.out.cell i; replace zz := fun i => blk_frozen Z.out i; replace U := Aside0.mk (U.out.below hb); replace hu := fun i => U.out.cell i; replace V := Aside0.mk (V.out.below hb); replace hv := fun i => V.out.cell i; clear  hb) | (go_at_call 74; (with_reducible refine (VD.out _ _ _ _ _ SA0.out SA1.out SB0.out SB1.out).mono ?_); rintro e W4 ⟨rfl, hb⟩; replace B := Aside0.mk (below_then B.out B.out.size hb); replace HA := Aside0.mk (HA.out.below hb); replace HC := Aside0.mk (HC.out.below hb); replace SA0 := Aside0.mk (SA0.out.below hb); replace SA1 := Aside0.mk (SA1.out.below hb); replace SB0 := Aside0.mk (SB0.out.below hb); replace SB1 := Aside0.mk (SB1.out.below hb); replace X := Aside0.mk (X.out.below hb); replace hx := fun i => X.out.cell i; replace Y := Aside0.mk (Y.out.below hb); replace hy := fun i => Y.out.cell i; replace Z := Aside0.mk (Z.out.below hb); replace hz := fun i => Z.out.cell i; replace zz := fun i => blk_frozen Z.out i; replace U := Aside0.mk (U.out.below hb); replace hu := fun i => U.out.cell i; replace V := Aside0.mk (V.out.below hb); replace hv := fun i => V.out.cell i; clear  hb))
  all_goals go_wp2
  all_goals (refine bodyPost_ret (results_ct rfl _ _ (w.heap.size + 1 + 1) 57 #[_, _] (0, 0) _ rfl (blk_put (blk_put (Z.out) 0 _ rfl) 1 _ rfl) Try.underlying57 rfl (by kernel_rfl)) rfl ?_; exact ⟨rfl, belowS B.out.size B.out (by omega)⟩)
def sameR (a b : Hi) : Bool := decide ((intsR a b).2 = 0) && decide ((intsR b a).2 = 0) && decide ((intsR a b).1 = (intsR b a).1) && decide ((intsR a b).1.1 = 0)
set_option maxHeartbeats 16000000 in
set_option maxRecDepth 100000 in
theorem same11_c (a b : Hi) (hwa : wfH a) (hwb : wfH b) (w : World) (u v : Value) (hu : HI w u a) (hv : HI w v b) : Calls Try.prog 68 #[u, v] w fun e w' => e = .returned (.bool (sameR a b)) ∧ Below w.heap.size w w' := by
  have hud := Try.underlying26
  have huv := Try.underlying57
  have ka := resetI_c a b hwa hwb
  have kb := resetI_c b a hwb hwa
  unfold sameR
  generalize intsR a b = r at *
  generalize intsR b a = s at *
  obtain ⟨⟨x1, x2⟩, e⟩ := r
  obtain ⟨⟨y1, y2⟩, f⟩ := s
  simp only at ka kb ⊢
  have KA := Aside0.mk ka
  have KB := Aside0.mk kb
  clear ka kb hwa hwb
  obtain ⟨A5a, c5a, A6a, c6a, A7a, c7a, A8a, c8a, e9, -⟩ := hu.open_
  subst e9
  obtain ⟨A5b, c5b, A6b, c6b, A7b, c7b, A8b, c8b, e9, -⟩ := hv.open_
  subst e9
  have B := Aside0.mk (below_alloc (below_alloc (Below.refl w.heap.size w) (.cells #[.int .i64 a.f0, .int .u64 a.f1, .int .u64 a.f2, .int .u64 a.f3, .int .u64 a.f4, .slice A5a a.f5.length c5a, .slice A6a a.f6.length c6a, .slice A7a a.f7.length c7a, .slice A8a a.f8.length c8a] 26)) (.cells #[.int .i64 b.f0, .int .u64 b.f1, .int .u64 b.f2, .int .u64 b.f3, .int .u64 b.f4, .slice A5b b.f5.length c5b, .slice A6b b.f6.length c6b, .slice A7b b.f7.length c7b, .slice A8b b.f8.length c8b] 26))
  have X := Aside0.mk ((Blk.new w #[.int .i64 a.f0, .int .u64 a.f1, .int .u64 a.f2, .int .u64 a.f3, .int .u64 a.f4, .slice A5a a.f5.length c5a, .slice A6a a.f6.length c6a, .slice A7a a.f7.length c7a, .slice A8a a.f8.length c8a] 26).alloc (.cells #[.int .i64 b.f0, .int .u64 b.f1, .int .u64 b.f2, .int .u64 b.f3, .int .u64 b.f4, .slice A5b b.f5.length c5b, .slice A6b b.f6.length c6b, .slice A7b b.f7.length c7b, .slice A8b b.f8.length c8b] 26))
  have Y := Aside0.mk (Blk.at1 (w := w) (.cells #[.int .i64 a.f0, .int .u64 a.f1, .int .u64 a.f2, .int .u64 a.f3, .int .u64 a.f4, .slice A5a a.f5.length c5a, .slice A6a a.f6.length c6a, .slice A7a a.f7.length c7a, .slice A8a a.f8.length c8a] 26) #[.int .i64 b.f0, .int .u64 b.f1, .int .u64 b.f2, .int .u64 b.f3, .int .u64 b.f4, .slice A5b b.f5.length c5b, .slice A6b b.f6.length c6b, .slice A7b b.f7.length c7b, .slice A8b b.f8.length c8b] 26)
  have hx := fun i => X.out.cell i
  have hy := fun i => Y.out.cell i
  have HA := Aside0.mk (hu.below B.out)
  have HC := Aside0.mk (hv.below B.out)
  clear hu hv
  have fin : ∀ t : Bool, t = (decide (e = 0) && decide (f = 0) && decide ((x1, x2) = (y1, y2)) && decide (x1 = 0)) → (decide (e = 0) && decide (f = 0) && decide ((x1, x2) = (y1, y2)) && decide (x1 = 0)) = t := fun t h => h.symm
  have FIN := Aside0.mk fin
  clear fin
  by_cases c1 : e = 0
  rotate_left
  · have d1 : (e == 0) = false := beq_eq_false_iff_ne.2 c1
    rw [FIN.out false (by rw [decide_eq_false c1]; simp)]
    clear c1 FIN
    go_enter Try.func68, Try.ntmps68
    go_wp2_with (first | (go_at_call 26; (with_reducible refine (KA.out _ _ _ HA.out HC.out).mono ?_); rintro e W1 ⟨rfl, hb⟩; replace B := Aside0.mk (below_then B.out B.out.size hb); replace HA := Aside0.mk (HA.out.below hb); replace HC := Aside0.mk (HC.out.below hb); replace X := Aside0.mk (X.out.below hb); replace hx := fun i => X.out.cell i; replace Y := Aside0.mk (Y.out.below hb); replace hy := fun i => Y.out.cell i; have hxa := fun i => (X.out.alloc (.cells #[.int .i64 x1, .int .i64 x2] 57)).cell i; have hya := fun i => (Y.out.alloc (.cells #[.int .i64 x1, .int .i64 x2] 57)).cell i; clear  hb))
    (try clear hxa hya)
    have hal := below_alloc (Below.refl W1.heap.size W1) (.cells #[.int .i64 x1, .int .i64 x2] 57)
    replace B := Aside0.mk (below_then B.out B.out.size hal)
    replace HA := Aside0.mk (HA.out.below hal)
    replace HC := Aside0.mk (HC.out.below hal)
    replace X := Aside0.mk (X.out.alloc (.cells #[.int .i64 x1, .int .i64 x2] 57)); replace hx := fun i => X.out.cell i
    replace Y := Aside0.mk (Y.out.alloc (.cells #[.int .i64 x1, .int .i64 x2] 57)); replace hy := fun i => Y.out.cell i
    have U := Aside0.mk (Blk.new W1 #[.int .i64 x1, .int .i64 x2] 57); have hu := fun i => U.out.cell i; clear hal
    go_wp2_with (first | (go_at_call 26; (with_reducible refine (KB.out _ _ _ HC.out HA.out).mono ?_); rintro e W2 ⟨rfl, hb⟩; replace B := Aside0.mk (below_then B.out B.out.size hb); replace HA := Aside0.mk (HA.out.below hb); replace HC := Aside0.mk (HC.out.below hb); replace X := Aside0.mk (X.out.below hb); replace hx := fun i => X.out.cell i; replace Y := Aside0.mk (Y.out.below hb); replace hy := fun i => Y.out.cell i; replace U := Aside0.mk (U.out.below hb); replace hu := fun i => U.out.cell i; clear  hb; have hbv := below_alloc (Below.refl W2.heap.size W2) (.cells #[.int .i64 y1, .int .i64 y2] 57); replace B := Aside0.mk (below_then B.out B.out.size hbv); have V := Aside0.mk (Blk.new W2 #[.int .i64 y1, .int .i64 y2] 57); have hv2 := fun i => V.out.cell i; replace U := Aside0.mk (U.out.below hbv); replace hu := fun i => U.out.cell i; clear hbv))
    all_goals go_ret
    all_goals exact ⟨rfl, B.out⟩
  subst c1
  by_cases c2 : f = 0
  rotate_left
  · have d1 : (f == 0) = false := beq_eq_false_iff_ne.2 c2
    rw [FIN.out false (by rw [decide_eq_false c2]; simp)]
    clear c2 FIN
    go_enter Try.func68, Try.ntmps68
    go_wp2_with (first | (go_at_call 26; (with_reducible refine (KA.out _ _ _ HA.out HC.out).mono ?_); rintro e W1 ⟨rfl, hb⟩; replace B := Aside0.mk (below_then B.out B.out.size hb); replace HA := Aside0.mk (HA.out.below hb); replace HC := Aside0.mk (HC.out.below hb); replace X := Aside0.mk (X.out.below hb); replace hx := fun i => X.out.cell i; replace Y := Aside0.mk (Y.out.below hb); replace hy := fun i => Y.out.cell i; have hxa := fun i => (X.out.alloc (.cells #[.int .i64 x1, .int .i64 x2] 57)).cell i; have hya := fun i => (Y.out.alloc (.cells #[.int .i64 x1, .int .i64 x2] 57)).cell i; clear  hb))
    (try clear hxa hya)
    have hal := below_alloc (Below.refl W1.heap.size W1) (.cells #[.int .i64 x1, .int .i64 x2] 57)
    replace B := Aside0.mk (below_then B.out B.out.size hal)
    replace HA := Aside0.mk (HA.out.below hal)
    replace HC := Aside0.mk (HC.out.below hal)
    replace X := Aside0.mk (X.out.alloc (.cells #[.int .i64 x1, .int .i64 x2] 57)); replace hx := fun i => X.out.cell i
    replace Y := Aside0.mk (Y.out.alloc (.cells #[.int .i64 x1, .int .i64 x2] 57)); replace hy := fun i => Y.out.cell i
    have U := Aside0.mk (Blk.new W1 #[.int .i64 x1, .int .i64 x2] 57); have hu := fun i => U.out.cell i; clear hal
    go_wp2_with (first | (go_at_call 26; (with_reducible refine (KB.out _ _ _ HC.out HA.out).mono ?_); rintro e W2 ⟨rfl, hb⟩; replace B := Aside0.mk (below_then B.out B.out.size hb); replace HA := Aside0.mk (HA.out.below hb); replace HC := Aside0.mk (HC.out.below hb); replace X := Aside0.mk (X.out.below hb); replace hx := fun i => X.out.cell i; replace Y := Aside0.mk (Y.out.below hb); replace hy := fun i => Y.out.cell i; replace U := Aside0.mk (U.out.below hb); replace hu := fun i => U.out.cell i; clear  hb; have hbv := below_alloc (Below.refl W2.heap.size W2) (.cells #[.int .i64 y1, .int .i64 y2] 57); replace B := Aside0.mk (below_then B.out B.out.size hbv); have V := Aside0.mk (Blk.new W2 #[.int .i64 y1, .int .i64 y2] 57); have hv2 := fun i => V.out.cell i; replace U := Aside0.mk (U.out.below hbv); replace hu := fun i => U.out.cell i; clear hbv))
    all_goals go_ret
    all_goals exact ⟨rfl, B.out⟩
  subst c2
  by_cases c3 : x1 = y1
  rotate_left
  · have d1 : (x1 == y1) = false := beq_eq_false_iff_ne.2 c3
    rw [FIN.out false (by rw [decide_eq_false (show ¬ ((x1, x2) = (y1, y2)) from fun h => c3 (by injection h))]; simp)]
    clear c3 FIN
    go_enter Try.func68, Try.ntmps68
    go_wp2_with (first | (go_at_call 26; (with_reducible refine (KA.out _ _ _ HA.out HC.out).mono ?_); rintro e W1 ⟨rfl, hb⟩; replace B := Aside0.mk (below_then B.out B.out.size hb); replace HA := Aside0.mk (HA.out.below hb); replace HC := Aside0.mk (HC.out.below hb); replace X := Aside0.mk (X.out.below hb); replace hx := fun i => X.out.cell i; replace Y := Aside0.mk (Y.out.below hb); replace hy := fun i => Y.out.cell i; have hxa := fun i => (X.out.alloc (.cells #[.int .i64 x1, .int .i64 x2] 57)).cell i; have hya := fun i => (Y.out.alloc (.cells #[.int .i64 x1, .int .i64 x2] 57)).cell i; clear  hb))
    (try clear hxa hya)
    have hal := below_alloc (Below.refl W1.heap.size W1) (.cells #[.int .i64 x1, .int .i64 x2] 57)
    replace B := Aside0.mk (below_then B.out B.out.size hal)
    replace HA := Aside0.mk (HA.out.below hal)
    replace HC := Aside0.mk (HC.out.below hal)
    replace X := Aside0.mk (X.out.alloc (.cells #[.int .i64 x1, .int .i64 x2] 57)); replace hx := fun i => X.out.cell i
    replace Y := Aside0.mk (Y.out.alloc (.cells #[.int .i64 x1, .int .i64 x2] 57)); replace hy := fun i => Y.out.cell i
    have U := Aside0.mk (Blk.new W1 #[.int .i64 x1, .int .i64 x2] 57); have hu := fun i => U.out.cell i; clear hal
    go_wp2_with (first | (go_at_call 26; (with_reducible refine (KB.out _ _ _ HC.out HA.out).mono ?_); rintro e W2 ⟨rfl, hb⟩; replace B := Aside0.mk (below_then B.out B.out.size hb); replace HA := Aside0.mk (HA.out.below hb); replace HC := Aside0.mk (HC.out.below hb); replace X := Aside0.mk (X.out.below hb); replace hx := fun i => X.out.cell i; replace Y := Aside0.mk (Y.out.below hb); replace hy := fun i => Y.out.cell i; replace U := Aside0.mk (U.out.below hb); replace hu := fun i => U.out.cell i; clear  hb; have hbv := below_alloc (Below.refl W2.heap.size W2) (.cells #[.int .i64 y1, .int .i64 y2] 57); replace B := Aside0.mk (below_then B.out B.out.size hbv); have V := Aside0.mk (Blk.new W2 #[.int .i64 y1, .int .i64 y2] 57); have hv2 := fun i => V.out.cell i; replace U := Aside0.mk (U.out.below hbv); replace hu := fun i => U.out.cell i; clear hbv))
    all_goals go_ret
    all_goals exact ⟨rfl, B.out⟩
  subst c3
  by_cases c3 : x2 = y2
  rotate_left
  · have d1 : (x2 == y2) = false := beq_eq_false_iff_ne.2 c3
    have d2 : (x1 == x1) = true := beq_self_eq_true _
    rw [FIN.out false (by rw [decide_eq_false (show ¬ ((x1, x2) = (x1, y2)) from fun h => c3 (by injection h))]; simp)]
    clear c3 FIN
    go_enter Try.func68, Try.ntmps68
    go_wp2_with (first | (go_at_call 26; (with_reducible refine (KA.out _ _ _ HA.out HC.out).mono ?_); rintro e W1 ⟨rfl, hb⟩; replace B := Aside0.mk (below_then B.out B.out.size hb); replace HA := Aside0.mk (HA.out.below hb); replace HC := Aside0.mk (HC.out.below hb); replace X := Aside0.mk (X.out.below hb); replace hx := fun i => X.out.cell i; replace Y := Aside0.mk (Y.out.below hb); replace hy := fun i => Y.out.cell i; have hxa := fun i => (X.out.alloc (.cells #[.int .i64 x1, .int .i64 x2] 57)).cell i; have hya := fun i => (Y.out.alloc (.cells #[.int .i64 x1, .int .i64 x2] 57)).cell i; clear  hb))
    (try clear hxa hya)
    have hal := below_alloc (Below.refl W1.heap.size W1) (.cells #[.int .i64 x1, .int .i64 x2] 57)
    replace B := Aside0.mk (below_then B.out B.out.size hal)
    replace HA := Aside0.mk (HA.out.below hal)
    replace HC := Aside0.mk (HC.out.below hal)
    replace X := Aside0.mk (X.out.alloc (.cells #[.int .i64 x1, .int .i64 x2] 57)); replace hx := fun i => X.out.cell i
    replace Y := Aside0.mk (Y.out.alloc (.cells #[.int .i64 x1, .int .i64 x2] 57)); replace hy := fun i => Y.out.cell i
    have U := Aside0.mk (Blk.new W1 #[.int .i64 x1, .int .i64 x2] 57); have hu := fun i => U.out.cell i; clear hal
    go_wp2_with (first | (go_at_call 26; (with_reducible refine (KB.out _ _ _ HC.out HA.out).mono ?_); rintro e W2 ⟨rfl, hb⟩; replace B := Aside0.mk (below_then B.out B.out.size hb); replace HA := Aside0.mk (HA.out.below hb); replace HC := Aside0.mk (HC.out.below hb); replace X := Aside0.mk (X.out.below hb); replace hx := fun i => X.out.cell i; replace Y := Aside0.mk (Y.out.below hb); replace hy := fun i => Y.out.cell i; replace U := Aside0.mk (U.out.below hb); replace hu := fun i => U.out.cell i; clear  hb; have hbv := below_alloc (Below.refl W2.heap.size W2) (.cells #[.int .i64 x1, .int .i64 y2] 57); replace B := Aside0.mk (below_then B.out B.out.size hbv); have V := Aside0.mk (Blk.new W2 #[.int .i64 x1, .int .i64 y2] 57); have hv2 := fun i => V.out.cell i; replace U := Aside0.mk (U.out.below hbv); replace hu := fun i => U.out.cell i; clear hbv))
    all_goals go_ret
    all_goals exact ⟨rfl, B.out⟩
  subst c3
  by_cases c4 : x1 = 0
  · have d1 : (x1 == 0) = true := beq_iff_eq.2 c4
    rw [FIN.out true (by rw [decide_eq_true c4]; simp)]
    clear c4 FIN
    go_enter Try.func68, Try.ntmps68
    go_wp2_with (first | (go_at_call 26; (with_reducible refine (KA.out _ _ _ HA.out HC.out).mono ?_); rintro e W1 ⟨rfl, hb⟩; replace B := Aside0.mk (below_then B.out B.out.size hb); replace HA := Aside0.mk (HA.out.below hb); replace HC := Aside0.mk (HC.out.below hb); replace X := Aside0.mk (X.out.below hb); replace hx := fun i => X.out.cell i; replace Y := Aside0.mk (Y.out.below hb); replace hy := fun i => Y.out.cell i; have hxa := fun i => (X.out.alloc (.cells #[.int .i64 x1, .int .i64 x2] 57)).cell i; have hya := fun i => (Y.out.alloc (.cells #[.int .i64 x1, .int .i64 x2] 57)).cell i; clear  hb))
    (try clear hxa hya)
    have hal := below_alloc (Below.refl W1.heap.size W1) (.cells #[.int .i64 x1, .int .i64 x2] 57)
    replace B := Aside0.mk (below_then B.out B.out.size hal)
    replace HA := Aside0.mk (HA.out.below hal)
    replace HC := Aside0.mk (HC.out.below hal)
    replace X := Aside0.mk (X.out.alloc (.cells #[.int .i64 x1, .int .i64 x2] 57)); replace hx := fun i => X.out.cell i
    replace Y := Aside0.mk (Y.out.alloc (.cells #[.int .i64 x1, .int .i64 x2] 57)); replace hy := fun i => Y.out.cell i
    have U := Aside0.mk (Blk.new W1 #[.int .i64 x1, .int .i64 x2] 57); have hu := fun i => U.out.cell i; clear hal
    go_wp2_with (first | (go_at_call 26; (with_reducible refine (KB.out _ _ _ HC.out HA.out).mono ?_); rintro e W2 ⟨rfl, hb⟩; replace B := Aside0.mk (below_then B.out B.out.size hb); replace HA := Aside0.mk (HA.out.below hb); replace HC := Aside0.mk (HC.out.below hb); replace X := Aside0.mk (X.out.below hb); replace hx := fun i => X.out.cell i; replace Y := Aside0.mk (Y.out.below hb); replace hy := fun i => Y.out.cell i; replace U := Aside0.mk (U.out.below hb); replace hu := fun i => U.out.cell i; clear  hb; have hbv := below_alloc (Below.refl W2.heap.size W2) (.cells #[.int .i64 x1, .int .i64 x2] 57); replace B := Aside0.mk (below_then B.out B.out.size hbv); have V := Aside0.mk (Blk.new W2 #[.int .i64 x1, .int .i64 x2] 57); have hv2 := fun i => V.out.cell i; replace U := Aside0.mk (U.out.below hbv); replace hu := fun i => U.out.cell i; clear hbv))
    all_goals go_ret
    all_goals exact ⟨rfl, B.out⟩
  · have d1 : (x1 == 0) = false := beq_eq_false_iff_ne.2 c4
    rw [FIN.out false (by rw [decide_eq_false c4]; simp)]
    clear c4 FIN
    go_enter Try.func68, Try.ntmps68
    go_wp2_with (first | (go_at_call 26; (with_reducible refine (KA.out _ _ _ HA.out HC.out).mono ?_); rintro e W1 ⟨rfl, hb⟩; replace B := Aside0.mk (below_then B.out B.out.size hb); replace HA := Aside0.mk (HA.out.below hb); replace HC := Aside0.mk (HC.out.below hb); replace X := Aside0.mk (X.out.below hb); replace hx := fun i => X.out.cell i; replace Y := Aside0.mk (Y.out.below hb); replace hy := fun i => Y.out.cell i; have hxa := fun i => (X.out.alloc (.cells #[.int .i64 x1, .int .i64 x2] 57)).cell i; have hya := fun i => (Y.out.alloc (.cells #[.int .i64 x1, .int .i64 x2] 57)).cell i; clear  hb))
    (try clear hxa hya)
    have hal := below_alloc (Below.refl W1.heap.size W1) (.cells #[.int .i64 x1, .int .i64 x2] 57)
    replace B := Aside0.mk (below_then B.out B.out.size hal)
    replace HA := Aside0.mk (HA.out.below hal)
    replace HC := Aside0.mk (HC.out.below hal)
    replace X := Aside0.mk (X.out.alloc (.cells #[.int .i64 x1, .int .i64 x2] 57)); replace hx := fun i => X.out.cell i
    replace Y := Aside0.mk (Y.out.alloc (.cells #[.int .i64 x1, .int .i64 x2] 57)); replace hy := fun i => Y.out.cell i
    have U := Aside0.mk (Blk.new W1 #[.int .i64 x1, .int .i64 x2] 57); have hu := fun i => U.out.cell i; clear hal
    go_wp2_with (first | (go_at_call 26; (with_reducible refine (KB.out _ _ _ HC.out HA.out).mono ?_); rintro e W2 ⟨rfl, hb⟩; replace B := Aside0.mk (below_then B.out B.out.size hb); replace HA := Aside0.mk (HA.out.below hb); replace HC := Aside0.mk (HC.out.below hb); replace X := Aside0.mk (X.out.below hb); replace hx := fun i => X.out.cell i; replace Y := Aside0.mk (Y.out.below hb); replace hy := fun i => Y.out.cell i; replace U := Aside0.mk (U.out.below hb); replace hu := fun i => U.out.cell i; clear  hb; have hbv := below_alloc (Below.refl W2.heap.size W2) (.cells #[.int .i64 x1, .int .i64 x2] 57); replace B := Aside0.mk (below_then B.out B.out.size hbv); have V := Aside0.mk (Blk.new W2 #[.int .i64 x1, .int .i64 x2] 57); have hv2 := fun i => V.out.cell i; replace U := Aside0.mk (U.out.below hbv); replace hu := fun i => U.out.cell i; clear hbv))
    all_goals go_ret
    all_goals exact ⟨rfl, B.out⟩
end Go.Proofs.Ytefiabakfpfbaaa.P
namespace Go.Proofs.Ytefiabakfpfbaaa.P
open Go.RowKit Go.Shelf Go.Proofs.YtefiabakfpfbaaaW.PrintWords Go.Proofs.YtefiabakfpfbaaaW.PrintLast Go.Proofs.YtefiabakfpfbaaaW.PrintMore
theorem lessF_c (a b : List Pu) (ha : Ups (fun q : Pu => q.f0) a) (hb : Ups (fun q : Pu => q.f0) b) (hm : a.length ≤ 4096) (w : World) (u v : Value) (hu : SI kPu w u a) (hv : SI kPu w v b) : Calls Try.prog 114 #[u, v] w fun e w' => e = .returned (.tuple #[.int .i64 (lessF a b).1, .bool (lessF a b).2]) ∧ Below w.heap.size w w' := by
  obtain ⟨A, c, rfl, hc, hr⟩ := hu
  obtain ⟨B, d, rfl, hd, hs⟩ := hv
  exact reset_less_uint64.calls (a.length * 5 + b.length + 2) A c a (fun k => k < w.heap.size) B d b (lessF a b).1 (lessF a b).2 w hr hc ⟨_, _, rfl, hd, Kd.C_F (show Kd.Heap k106 from Kd.heap_iso _ (Kd.heap_pair (Kd.heap_int .i64) (Kd.heap_int .u64))) hs⟩ (lessF_eq a b ha hb (by omega) _ (by omega))
set_option maxHeartbeats 4000000 in
set_option maxRecDepth 100000 in
theorem verdictF_c (why : Int) (a0 a1 b0 b1 : List Pu) (l0 : ∀ w u v, SI kPu w u a0 → SI kPu w v b0 → Calls Try.prog 114 #[u, v] w fun e w' => e = .returned (.tuple #[.int .i64 (lessF a0 b0).1, .bool (lessF a0 b0).2]) ∧ Below w.heap.size w w')
    (l1 : ∀ w u v, SI kPu w u a1 → SI kPu w v b1 → Calls Try.prog 114 #[u, v] w fun e w' => e = .returned (.tuple #[.int .i64 (lessF a1 b1).1, .bool (lessF a1 b1).2]) ∧ Below w.heap.size w w')
    (w : World) (u0 u1 v0 v1 : Value) (hu0 : SI kPu w u0 a0) (hu1 : SI kPu w u1 a1) (hv0 : SI kPu w v0 b0) (hv1 : SI kPu w v1 b1) : Calls Try.prog 77 #[.int .i64 why, .agg #[u0, u1], .agg #[v0, v1]] w fun e w' =>
    e = .returned (.agg #[.int .i64 (verdR why (lessF a0 b0) (lessF a1 b1)).1, .int .i64 (verdR why (lessF a0 b0) (lessF a1 b1)).2]) ∧ Below w.heap.size w w' := by
  have hua := Try.underlying123
  have huv := Try.underlying57
  generalize lessF a0 b0 = r0 at *
  generalize lessF a1 b1 = r1 at *
  obtain ⟨p, ok⟩ := r0
  obtain ⟨q, ok1⟩ := r1
  simp only at l0 l1
  have L0 := Aside0.mk l0
  have L1 := Aside0.mk l1
  clear l0 l1
  have hu0' := hu0; have hu1' := hu1; have hv0' := hv0; have hv1' := hv1
  obtain ⟨A0, c0, e0, -⟩ := hu0'; subst e0
  obtain ⟨A1, c1, e1, -⟩ := hu1'; subst e1
  obtain ⟨D0, d0, e2, -⟩ := hv0'; subst e2
  obtain ⟨D1, d1, e3, -⟩ := hv1'; subst e3
  have B := Aside0.mk (below_alloc (below_alloc (below_alloc (Below.refl w.heap.size w) (.cells #[.slice A0 a0.length c0, .slice A1 a1.length c1] 123)) (.cells #[.slice D0 b0.length d0, .slice D1 b1.length d1] 123)) (.cells #[.int .i64 0, .int .i64 0] 57))
  have X := Aside0.mk (((Blk.new w #[.slice A0 a0.length c0, .slice A1 a1.length c1] 123).alloc (.cells #[.slice D0 b0.length d0, .slice D1 b1.length d1] 123)).alloc (.cells #[.int .i64 0, .int .i64 0] 57))
  have Y := Aside0.mk ((Blk.at1 (w := w) (.cells #[.slice A0 a0.length c0, .slice A1 a1.length c1] 123) #[.slice D0 b0.length d0, .slice D1 b1.length d1] 123).alloc (.cells #[.int .i64 0, .int .i64 0] 57))
  have Z := Aside0.mk (show Blk (((w.alloc (.cells #[.slice A0 a0.length c0, .slice A1 a1.length c1] 123)).alloc (.cells #[.slice D0 b0.length d0, .slice D1 b1.length d1] 123)).alloc (.cells #[.int .i64 0, .int .i64 0] 57)) (w.heap.size + 1 + 1) #[.int .i64 0, .int .i64 0] 57 by have := Blk.new ((w.alloc (.cells #[.slice A0 a0.length c0, .slice A1 a1.length c1] 123)).alloc (.cells #[.slice D0 b0.length d0, .slice D1 b1.length d1] 123)) #[.int .i64 0, .int .i64 0] 57; simpa using this)
  have hx := fun i => X.out.cell i
  have hy := fun i => Y.out.cell i
  have hz := fun i => Z.out.cell i
  have zz := fun i => blk_frozen Z.out i
  have SA0 := Aside0.mk (hu0.below B.out)
  have SA1 := Aside0.mk (hu1.below B.out)
  have SB0 := Aside0.mk (hv0.below B.out)
  have SB1 := Aside0.mk (hv1.below B.out)
  clear hu0 hu1 hv0 hv1
  unfold verdR
  by_cases cw : why = 0
  rotate_left
  · rw [if_pos cw]
    have cw1 : (why != 0) = true := bne_iff_ne.2 cw
    clear cw
    go_enter Try.func77, Try.ntmps77
    go_wp2
    refine bodyPost_ret (results_cell_row rfl _ _ (w.heap.size + 1 + 1) 57 #[.int .i64 why, .int .i64 0] (0, 0) _ rfl (show Blk _ _ _ _ by have := Blk.new ((w.alloc (.cells #[.slice A0 a0.length c0, .slice A1 a1.length c1] 123)).alloc (.cells #[.slice D0 b0.length d0, .slice D1 b1.length d1] 123)) #[.int .i64 why, .int .i64 0] 57; simpa using this) Try.underlying57 rfl (by kernel_rfl)) rfl ?_
    exact ⟨rfl, below_alloc (below_alloc (below_alloc (Below.refl _ _) _) _) _⟩
  rw [if_neg (by simp [cw])]
  have cw1 : (why != 0) = false := by rw [cw]; rfl
  subst cw
  cases ok with
  | true =>
    simp only [if_true]
    go_enter Try.func77, Try.ntmps77
    go_wp2_with (first | (go_at_call 114; (with_reducible refine (L0.out _ _ _ SA0.out SB0.out).mono ?_); rintro e W1 ⟨rfl, hb⟩; replace B := Aside0.mk (below_then B.out B.out.size hb); replace SA0 := Aside0.mk (SA0.out.below hb); replace SA1 := Aside0.mk (SA1.out.below hb); replace SB0 := Aside0.mk (SB0.out.below hb); replace SB1 := Aside0.mk (SB1.out.below hb); replace X := Aside0.mk (X.out.below hb); replace hx := fun i => X.out.cell i; replace Y := Aside0.mk (Y.out.below hb); replace hy := fun i => Y.out.cell i; replace Z := Aside0.mk (Z.out.below hb); replace hz := fun i => Z.out.cell i; replace zz := fun i => blk_frozen Z.out i; clear  hb))
    refine bodyPost_ret (results_cell_row rfl _ _ (w.heap.size + 1 + 1) 57 #[_, _] (0, 0) _ rfl (blk_put (blk_put Z.out 0 _ rfl) 1 _ rfl) Try.underlying57 rfl (by kernel_rfl)) rfl ?_
    exact ⟨rfl, belowS B.out.size B.out (by omega)⟩
  | false =>
    cases ok1 with
    | true =>
      simp only [if_true, Bool.false_eq_true, if_false]
      go_enter Try.func77, Try.ntmps77
      go_wp2_with (first | (go_at_call 114; (with_reducible refine (L0.out _ _ _ SA0.out SB0.out).mono ?_); rintro e W1 ⟨rfl, hb⟩; replace B := Aside0.mk (below_then B.out B.out.size hb); replace SA0 := Aside0.mk (SA0.out.below hb); replace SA1 := Aside0.mk (SA1.out.below hb); replace SB0 := Aside0.mk (SB0.out.below hb); replace SB1 := Aside0.mk (SB1.out.below hb); replace X := Aside0.mk (X.out.below hb); replace hx := fun i => X.out.cell i; replace Y := Aside0.mk (Y.out.below hb); replace hy := fun i => Y.out.cell i; replace Z := Aside0.mk (Z.out.below hb); replace hz := fun i => Z.out.cell i; replace zz := fun i => blk_frozen Z.out i; clear  hb) | (go_at_call 114; (with_reducible refine (L1.out _ _ _ SA1.out SB1.out).mono ?_); rintro e W2 ⟨rfl, hb⟩; replace B := Aside0.mk (below_then B.out B.out.size hb); replace SA0 := Aside0.mk (SA0.out.below hb); replace SA1 := Aside0.mk (SA1.out.below hb); replace SB0 := Aside0.mk (SB0.out.below hb); replace SB1 := Aside0.mk (SB1.out.below hb); replace X := Aside0.mk (X.out.below hb); replace hx := fun i => X.out.cell i; replace Y := Aside0.mk (Y.out.below hb); replace hy := fun i => Y.out.cell i; replace Z := Aside0.mk (Z.out.below hb); replace hz := fun i => Z.out.cell i; replace zz := fun i => blk_frozen Z.out i; clear  hb))
      refine bodyPost_ret (results_cell_row rfl _ _ (w.heap.size + 1 + 1) 57 #[_, _] (0, 0) _ rfl (blk_put (blk_put Z.out 0 _ rfl) 1 _ rfl) Try.underlying57 rfl (by kernel_rfl)) rfl ?_
      exact ⟨rfl, belowS B.out.size B.out (by omega)⟩
    | false =>
      simp only [Bool.false_eq_true, if_false]
      go_enter Try.func77, Try.ntmps77
      go_wp2_with (first | (go_at_call 114; (with_reducible refine (L0.out _ _ _ SA0.out SB0.out).mono ?_); rintro e W1 ⟨rfl, hb⟩; replace B := Aside0.mk (below_then B.out B.out.size hb); replace SA0 := Aside0.mk (SA0.out.below hb); replace SA1 := Aside0.mk (SA1.out.below hb); replace SB0 := Aside0.mk (SB0.out.below hb); replace SB1 := Aside0.mk (SB1.out.below hb); replace X := Aside0.mk (X.out.below hb); replace hx := fun i => X.out.cell i; replace Y := Aside0.mk (Y.out.below hb); replace hy := fun i => Y.out.cell i; replace Z := Aside0.mk (Z.out.below hb); replace hz := fun i => Z.out.cell i; replace zz := fun i => blk_frozen Z.out i; clear  hb) | (go_at_call 114; (with_reducible refine (L1.out _ _ _ SA1.out SB1.out).mono ?_); rintro e W2 ⟨rfl, hb⟩; replace B := Aside0.mk (below_then B.out B.out.size hb); replace SA0 := Aside0.mk (SA0.out.below hb); replace SA1 := Aside0.mk (SA1.out.below hb); replace SB0 := Aside0.mk (SB0.out.below hb); replace SB1 := Aside0.mk (SB1.out.below hb); replace X := Aside0.mk (X.out.below hb); replace hx := fun i => X.out.cell i; replace Y := Aside0.mk (Y.out.below hb); replace hy := fun i => Y.out.cell i; replace Z := Aside0.mk (Z.out.below hb); replace hz := fun i => Z.out.cell i; replace zz := fun i => blk_frozen Z.out i; clear  hb))
      refine bodyPost_ret (results_cell_row rfl _ _ (w.heap.size + 1 + 1) 57 #[_, _] (0, 0) _ rfl (blk_put (blk_put Z.out 0 _ rfl) 1 _ rfl) Try.underlying57 rfl (by kernel_rfl)) rfl ?_
      exact ⟨rfl, belowS B.out.size B.out (by omega)⟩
theorem headsF_c (a b : Fh) (w : World) : Calls Try.prog 75 #[.agg #[.int .i64 a.f0, .int .u64 a.f1, .int .u64 a.f3, .int .u64 a.f2], .agg #[.int .i64 b.f0, .int .u64 b.f1, .int .u64 b.f3, .int .u64 b.f2]] w fun e w' => e = .returned (.int .i64 (headsF a b)) ∧ Below w.heap.size w w' :=
  reset_heads.calls _ _ _ _ _ _ _ _ _ w (heads_eq _ _ _ _ _ _ _ _)
set_option maxHeartbeats 16000000 in
set_option maxRecDepth 100000 in
theorem resetF_c (a b : Fh) (hwa : wfF a) (hwb : wfF b) (w : World) (u v : Value) (hu : GI w u a) (hv : GI w v b) : Calls Try.prog 27 #[u, v] w fun e w' =>
    e = .returned (.tuple #[.agg #[.int .i64 (floatsR a b).1.1, .int .i64 (floatsR a b).1.2], .int .i64 (floatsR a b).2]) ∧ Below w.heap.size w w' := by
  have hud := Try.underlying53
  have hua := Try.underlying123
  have huv := Try.underlying57
  have ka := sidesF_c a hwa
  have kb := sidesF_c b hwb
  have hd := headsF_c a b
  have ra := openF_row hwa
  have rb := openF_row hwb
  have vd := verdictF_c (headsF a b) (openF a).1 (openF a).2.1 (openF b).1 (openF b).2.1 (lessF_c _ _ ra.1.ups rb.1.ups ra.1.len) (lessF_c _ _ ra.2.ups rb.2.ups ra.2.len)
  unfold floatsR floatsV
  generalize verdR (headsF a b) (lessF (openF a).1 (openF b).1) (lessF (openF a).2.1 (openF b).2.1) = r at *
  obtain ⟨r1, r2⟩ := r
  generalize headsF a b = hd0 at *
  generalize (openF a).1 = x0 at *
  generalize (openF a).2.1 = x1 at *
  generalize (openF b).1 = y0 at *
  generalize (openF b).2.1 = y1 at *
  generalize checkF a = ea at *
  generalize checkF b = eb at *
  have KA := Aside0.mk ka
  have KB := Aside0.mk kb
  have HD := Aside0.mk hd
  have VD := Aside0.mk vd
  clear ka kb hd vd ra rb hwa hwb
  obtain ⟨A5a, c5a, A6a, c6a, A7a, c7a, A8a, c8a, e, -⟩ := hu.open_
  subst e
  obtain ⟨A5b, c5b, A6b, c6b, A7b, c7b, A8b, c8b, e, -⟩ := hv.open_
  subst e
  have B := Aside0.mk (below_alloc (below_alloc (below_alloc (Below.refl w.heap.size w) (.cells #[.int .i64 a.f0, .int .u64 a.f1, .int .u64 a.f2, .int .u64 a.f3, .int .u64 a.f4, .slice A5a a.f5.length c5a, .slice A6a a.f6.length c6a, .slice A7a a.f7.length c7a, .slice A8a a.f8.length c8a] 53)) (.cells #[.int .i64 b.f0, .int .u64 b.f1, .int .u64 b.f2, .int .u64 b.f3, .int .u64 b.f4, .slice A5b b.f5.length c5b, .slice A6b b.f6.length c6b, .slice A7b b.f7.length c7b, .slice A8b b.f8.length c8b] 53)) (.cells #[.int .i64 0, .int .i64 0] 57))
  have X := Aside0.mk (((Blk.new w #[.int .i64 a.f0, .int .u64 a.f1, .int .u64 a.f2, .int .u64 a.f3, .int .u64 a.f4, .slice A5a a.f5.length c5a, .slice A6a a.f6.length c6a, .slice A7a a.f7.length c7a, .slice A8a a.f8.length c8a] 53).alloc (.cells #[.int .i64 b.f0, .int .u64 b.f1, .int .u64 b.f2, .int .u64 b.f3, .int .u64 b.f4, .slice A5b b.f5.length c5b, .slice A6b b.f6.length c6b, .slice A7b b.f7.length c7b, .slice A8b b.f8.length c8b] 53)).alloc (.cells #[.int .i64 0, .int .i64 0] 57))
  have Y := Aside0.mk ((Blk.at1 (w := w) (.cells #[.int .i64 a.f0, .int .u64 a.f1, .int .u64 a.f2, .int .u64 a.f3, .int .u64 a.f4, .slice A5a a.f5.length c5a, .slice A6a a.f6.length c6a, .slice A7a a.f7.length c7a, .slice A8a a.f8.length c8a] 53) #[.int .i64 b.f0, .int .u64 b.f1, .int .u64 b.f2, .int .u64 b.f3, .int .u64 b.f4, .slice A5b b.f5.length c5b, .slice A6b b.f6.length c6b, .slice A7b b.f7.length c7b, .slice A8b b.f8.length c8b] 53).alloc (.cells #[.int .i64 0, .int .i64 0] 57))
  have Z := Aside0.mk (show Blk (((w.alloc (.cells #[.int .i64 a.f0, .int .u64 a.f1, .int .u64 a.f2, .int .u64 a.f3, .int .u64 a.f4, .slice A5a a.f5.length c5a, .slice A6a a.f6.length c6a, .slice A7a a.f7.length c7a, .slice A8a a.f8.length c8a] 53)).alloc (.cells #[.int .i64 b.f0, .int .u64 b.f1, .int .u64 b.f2, .int .u64 b.f3, .int .u64 b.f4, .slice A5b b.f5.length c5b, .slice A6b b.f6.length c6b, .slice A7b b.f7.length c7b, .slice A8b b.f8.length c8b] 53)).alloc (.cells #[.int .i64 0, .int .i64 0] 57)) (w.heap.size + 1 + 1) #[.int .i64 0, .int .i64 0] 57 by have := Blk.new ((w.alloc (.cells #[.int .i64 a.f0, .int .u64 a.f1, .int .u64 a.f2, .int .u64 a.f3, .int .u64 a.f4, .slice A5a a.f5.length c5a, .slice A6a a.f6.length c6a, .slice A7a a.f7.length c7a, .slice A8a a.f8.length c8a] 53)).alloc (.cells #[.int .i64 b.f0, .int .u64 b.f1, .int .u64 b.f2, .int .u64 b.f3, .int .u64 b.f4, .slice A5b b.f5.length c5b, .slice A6b b.f6.length c6b, .slice A7b b.f7.length c7b, .slice A8b b.f8.length c8b] 53)) #[.int .i64 0, .int .i64 0] 57; simpa using this)
  have hx := fun i => X.out.cell i
  have hy := fun i => Y.out.cell i
  have hz := fun i => Z.out.cell i
  have zz := fun i => blk_frozen Z.out i
  have HA := Aside0.mk (hu.below B.out)
  have HC := Aside0.mk (hv.below B.out)
  clear hu hv
  by_cases c1 : ea = 0
  rotate_left
  · rw [if_pos c1]
    have d1 : (ea != 0) = true := bne_iff_ne.2 c1
    clear c1
    go_enter Try.func27, Try.ntmps27
    go_wp2_with (first | (go_at_call 76; (with_reducible refine (KA.out _ _ HA.out).mono ?_); rintro e W1 ⟨v0, v1, rfl, h0, h1, hb⟩; replace B := Aside0.mk (below_then B.out B.out.size hb); replace HA := Aside0.mk (HA.out.below hb); replace HC := Aside0.mk (HC.out.below hb); replace X := Aside0.mk (X.out.below hb); replace hx := fun i => X.out.cell i; replace Y := Aside0.mk (Y.out.below hb); replace hy := fun i => Y.out.cell i; replace Z := Aside0.mk (Z.out.below hb); replace hz := fun i => Z.out.cell i; replace zz := fun i => blk_frozen Z.out i; have SA0 := Aside0.mk h0; have SA1 := Aside0.mk h1; have e0' := SA0.out; have e1' := SA1.out; obtain ⟨P0, q0, e0⟩ := e0'.slc; subst e0; obtain ⟨P1, q1, e1⟩ := e1'.slc; subst e1; have hsz1 := blk_lt Z.out; have hxa := fun i => (X.out.alloc (.cells #[.slice P0 x0.length q0, .slice P1 x1.length q1] 123)).cell i; have hya := fun i => (Y.out.alloc (.cells #[.slice P0 x0.length q0, .slice P1 x1.length q1] 123)).cell i; have hza := fun i => (Z.out.alloc (.cells #[.slice P0 x0.length q0, .slice P1 x1.length q1] 123)).cell i; clear h0 h1 hb; have zza := fun i => blk_frozen (Z.out.alloc (.cells #[.slice P0 x0.length q0, .slice P1 x1.length q1] 123)) i))
    refine bodyPost_ret (results_ct rfl _ _ (w.heap.size + 1 + 1) 57 #[_, _] (0, 0) _ rfl (Blk.alloc (show Blk _ _ _ _ from blk_put (blk_put Z.out 0 _ rfl) 1 _ rfl) _) Try.underlying57 rfl (by kernel_rfl)) rfl ?_
    exact ⟨rfl, below_alloc (belowS B.out.size B.out (by omega)) _⟩
  subst c1
  rw [if_neg (by simp)]
  by_cases c2 : eb = 0
  rotate_left
  · rw [if_pos c2]
    have d2 : (eb != 0) = true := bne_iff_ne.2 c2
    clear c2
    go_enter Try.func27, Try.ntmps27
    go_wp2_with (first | (go_at_call 76; (with_reducible refine (KA.out _ _ HA.out).mono ?_); rintro e W1 ⟨v0, v1, rfl, h0, h1, hb⟩; replace B := Aside0.mk (below_then B.out B.out.size hb); replace HA := Aside0.mk (HA.out.below hb); replace HC := Aside0.mk (HC.out.below hb); replace X := Aside0.mk (X.out.below hb); replace hx := fun i => X.out.cell i; replace Y := Aside0.mk (Y.out.below hb); replace hy := fun i => Y.out.cell i; replace Z := Aside0.mk (Z.out.below hb); replace hz := fun i => Z.out.cell i; replace zz := fun i => blk_frozen Z.out i; have SA0 := Aside0.mk h0; have SA1 := Aside0.mk h1; have e0' := SA0.out; have e1' := SA1.out; obtain ⟨P0, q0, e0⟩ := e0'.slc; subst e0; obtain ⟨P1, q1, e1⟩ := e1'.slc; subst e1; have hsz1 := blk_lt Z.out; have hxa := fun i => (X.out.alloc (.cells #[.slice P0 x0.length q0, .slice P1 x1.length q1] 123)).cell i; have hya := fun i => (Y.out.alloc (.cells #[.slice P0 x0.length q0, .slice P1 x1.length q1] 123)).cell i; have hza := fun i => (Z.out.alloc (.cells #[.slice P0 x0.length q0, .slice P1 x1.length q1] 123)).cell i; clear h0 h1 hb))
    (try clear hxa hya hza)
    have hal := below_alloc (Below.refl W1.heap.size W1) (.cells #[.slice P0 x0.length q0, .slice P1 x1.length q1] 123)
    replace B := Aside0.mk (below_then B.out B.out.size hal)
    replace HA := Aside0.mk (HA.out.below hal)
    replace HC := Aside0.mk (HC.out.below hal)
    replace SA0 := Aside0.mk (SA0.out.below hal)
    replace SA1 := Aside0.mk (SA1.out.below hal)
    replace X := Aside0.mk (X.out.alloc (.cells #[.slice P0 x0.length q0, .slice P1 x1.length q1] 123)); replace hx := fun i => X.out.cell i
    replace Y := Aside0.mk (Y.out.alloc (.cells #[.slice P0 x0.length q0, .slice P1 x1.length q1] 123)); replace hy := fun i => Y.out.cell i
    replace Z := Aside0.mk (Z.out.alloc (.cells #[.slice P0 x0.length q0, .slice P1 x1.length q1] 123)); replace hz := fun i => Z.out.cell i
    have U := Aside0.mk (Blk.new W1 #[.slice P0 x0.length q0, .slice P1 x1.length q1] 123); have hu := fun i => U.out.cell i; clear hal
    go_wp2_with (first | (go_at_call 76; (with_reducible refine (KB.out _ _ HC.out).mono ?_); rintro e W2 ⟨v2, v3, rfl, h0, h1, hb⟩; replace B := Aside0.mk (below_then B.out B.out.size hb); replace HA := Aside0.mk (HA.out.below hb); replace HC := Aside0.mk (HC.out.below hb); replace SA0 := Aside0.mk (SA0.out.below hb); replace SA1 := Aside0.mk (SA1.out.below hb); replace X := Aside0.mk (X.out.below hb); replace hx := fun i => X.out.cell i; replace Y := Aside0.mk (Y.out.below hb); replace hy := fun i => Y.out.cell i; replace Z := Aside0.mk (Z.out.below hb); replace hz := fun i => Z.out.cell i; replace zz := fun i => blk_frozen Z.out i; replace U := Aside0.mk (U.out.below hb); replace hu := fun i => U.out.cell i; have SB0 := Aside0.mk h0; have SB1 := Aside0.mk h1; have e0' := SB0.out; have e1' := SB1.out; obtain ⟨P2, q2, e0⟩ := e0'.slc; subst e0; obtain ⟨P3, q3, e1⟩ := e1'.slc; subst e1; have hsz2 := blk_lt Z.out; have hxa := fun i => (X.out.alloc (.cells #[.slice P2 y0.length q2, .slice P3 y1.length q3] 123)).cell i; have hya := fun i => (Y.out.alloc (.cells #[.slice P2 y0.length q2, .slice P3 y1.length q3] 123)).cell i; have hza := fun i => (Z.out.alloc (.cells #[.slice P2 y0.length q2, .slice P3 y1.length q3] 123)).cell i; have hua := fun i => (U.out.alloc (.cells #[.slice P2 y0.length q2, .slice P3 y1.length q3] 123)).cell i; clear h0 h1 hb; have zza := fun i => blk_frozen (Z.out.alloc (.cells #[.slice P2 y0.length q2, .slice P3 y1.length q3] 123)) i))
    refine bodyPost_ret (results_ct rfl _ _ (w.heap.size + 1 + 1) 57 #[_, _] (0, 0) _ rfl (Blk.alloc (show Blk _ _ _ _ from blk_put (blk_put Z.out 0 _ rfl) 1 _ rfl) _) Try.underlying57 rfl (by kernel_rfl)) rfl ?_
    exact ⟨rfl, below_alloc (belowS B.out.size B.out (by omega)) _⟩
  subst c2
  rw [if_neg (by simp)]
  go_enter Try.func27, Try.ntmps27
  go_wp2_with (first | (go_at_call 76; (with_reducible refine (KA.out _ _ HA.out).mono ?_); rintro e W1 ⟨v0, v1, rfl, h0, h1, hb⟩; replace B := Aside0.mk (below_then B.out B.out.size hb); replace HA := Aside0.mk (HA.out.below hb); replace HC := Aside0.mk (HC.out.below hb); replace X := Aside0.mk (X.out.below hb); replace hx := fun i => X.out.cell i; replace Y := Aside0.mk (Y.out.below hb); replace hy := fun i => Y.out.cell i; replace Z := Aside0.mk (Z.out.below hb); replace hz := fun i => Z.out.cell i; replace zz := fun i => blk_frozen Z.out i; have SA0 := Aside0.mk h0; have SA1 := Aside0.mk h1; have e0' := SA0.out; have e1' := SA1.out; obtain ⟨P0, q0, e0⟩ := e0'.slc; subst e0; obtain ⟨P1, q1, e1⟩ := e1'.slc; subst e1; have hsz1 := blk_lt Z.out; have hxa := fun i => (X.out.alloc (.cells #[.slice P0 x0.length q0, .slice P1 x1.length q1] 123)).cell i; have hya := fun i => (Y.out.alloc (.cells #[.slice P0 x0.length q0, .slice P1 x1.length q1] 123)).cell i; have hza := fun i => (Z.out.alloc (.cells #[.slice P0 x0.length q0, .slice P1 x1.length q1] 123)).cell i; clear h0 h1 hb))
  (try clear hxa hya hza)
  have hal := below_alloc (Below.refl W1.heap.size W1) (.cells #[.slice P0 x0.length q0, .slice P1 x1.length q1] 123)
  replace B := Aside0.mk (below_then B.out B.out.size hal)
  replace HA := Aside0.mk (HA.out.below hal)
  replace HC := Aside0.mk (HC.out.below hal)
  replace SA0 := Aside0.mk (SA0.out.below hal)
  replace SA1 := Aside0.mk (SA1.out.below hal)
  replace X := Aside0.mk (X.out.alloc (.cells #[.slice P0 x0.length q0, .slice P1 x1.length q1] 123)); replace hx := fun i => X.out.cell i
  replace Y := Aside0.mk (Y.out.alloc (.cells #[.slice P0 x0.length q0, .slice P1 x1.length q1] 123)); replace hy := fun i => Y.out.cell i
  replace Z := Aside0.mk (Z.out.alloc (.cells #[.slice P0 x0.length q0, .slice P1 x1.length q1] 123)); replace hz := fun i => Z.out.cell i
  have U := Aside0.mk (Blk.new W1 #[.slice P0 x0.length q0, .slice P1 x1.length q1] 123); have hu := fun i => U.out.cell i; clear hal
  go_wp2_with (first | (go_at_call 76; (with_reducible refine (KB.out _ _ HC.out).mono ?_); rintro e W2 ⟨v2, v3, rfl, h0, h1, hb⟩; replace B := Aside0.mk (below_then B.out B.out.size hb); replace HA := Aside0.mk (HA.out.below hb); replace HC := Aside0.mk (HC.out.below hb); replace SA0 := Aside0.mk (SA0.out.below hb); replace SA1 := Aside0.mk (SA1.out.below hb); replace X := Aside0.mk (X.out.below hb); replace hx := fun i => X.out.cell i; replace Y := Aside0.mk (Y.out.below hb); replace hy := fun i => Y.out.cell i; replace Z := Aside0.mk (Z.out.below hb); replace hz := fun i => Z.out.cell i; replace zz := fun i => blk_frozen Z.out i; replace U := Aside0.mk (U.out.below hb); replace hu := fun i => U.out.cell i; have SB0 := Aside0.mk h0; have SB1 := Aside0.mk h1; have e0' := SB0.out; have e1' := SB1.out; obtain ⟨P2, q2, e0⟩ := e0'.slc; subst e0; obtain ⟨P3, q3, e1⟩ := e1'.slc; subst e1; have hsz2 := blk_lt Z.out; have hxa := fun i => (X.out.alloc (.cells #[.slice P2 y0.length q2, .slice P3 y1.length q3] 123)).cell i; have hya := fun i => (Y.out.alloc (.cells #[.slice P2 y0.length q2, .slice P3 y1.length q3] 123)).cell i; have hza := fun i => (Z.out.alloc (.cells #[.slice P2 y0.length q2, .slice P3 y1.length q3] 123)).cell i; have hua := fun i => (U.out.alloc (.cells #[.slice P2 y0.length q2, .slice P3 y1.length q3] 123)).cell i; clear h0 h1 hb))
  (try clear hxa hya hza hua)
  have hal := below_alloc (Below.refl W2.heap.size W2) (.cells #[.slice P2 y0.length q2, .slice P3 y1.length q3] 123)
  replace B := Aside0.mk (below_then B.out B.out.size hal)
  replace HA := Aside0.mk (HA.out.below hal)
  replace HC := Aside0.mk (HC.out.below hal)
  replace SA0 := Aside0.mk (SA0.out.below hal)
  replace SA1 := Aside0.mk (SA1.out.below hal)
  replace SB0 := Aside0.mk (SB0.out.below hal)
  replace SB1 := Aside0.mk (SB1.out.below hal)
  replace X := Aside0.mk (X.out.alloc (.cells #[.slice P2 y0.length q2, .slice P3 y1.length q3] 123)); replace hx := fun i => X.out.cell i
  replace Y := Aside0.mk (Y.out.alloc (.cells #[.slice P2 y0.length q2, .slice P3 y1.length q3] 123)); replace hy := fun i => Y.out.cell i
  replace Z := Aside0.mk (Z.out.alloc (.cells #[.slice P2 y0.length q2, .slice P3 y1.length q3] 123)); replace hz := fun i => Z.out.cell i
  replace U := Aside0.mk (U.out.alloc (.cells #[.slice P2 y0.length q2, .slice P3 y1.length q3] 123)); replace hu := fun i => U.out.cell i
  have V := Aside0.mk (Blk.new W2 #[.slice P2 y0.length q2, .slice P3 y1.length q3] 123); have hv := fun i => V.out.cell i; clear hal
  replace HA := Aside0.mk (HA.out.below (below_drew (Below.refl _ _)))
  replace HC := Aside0.mk (HC.out.below (below_drew (Below.refl _ _)))
  replace SA0 := Aside0.mk (SA0.out.below (below_drew (Below.refl _ _)))
  replace SA1 := Aside0.mk (SA1.out.below (below_drew (Below.refl _ _)))
  replace SB0 := Aside0.mk (SB0.out.below (below_drew (Below.refl _ _)))
  replace SB1 := Aside0.mk (SB1.out.below (below_drew (Below.refl _ _)))
  replace X := Aside0.mk (X.out.below (below_drew (Below.refl _ _)))
  replace Y := Aside0.mk (Y.out.below (below_drew (Below.refl _ _)))
  replace Z := Aside0.mk (Z.out.below (below_drew (Below.refl _ _)))
  replace U := Aside0.mk (U.out.below (below_drew (Below.refl _ _)))
  replace V := Aside0.mk (V.out.below (below_drew (Below.refl _ _)))
  replace B := Aside0.mk (below_drew B.out)
  go_region_held3 (fun W => (∀ i, W.cell? ⟨w.heap.size, i, none⟩ = (#[.int .i64 a.f0, .int .u64 a.f1, .int .u64 a.f2, .int .u64 a.f3, .int .u64 a.f4, .slice A5a a.f5.length c5a, .slice A6a a.f6.length c6a, .slice A7a a.f7.length c7a, .slice A8a a.f8.length c8a] : Array Value)[i]?) ∧ (∀ i, W.cell? ⟨w.heap.size + 1, i, none⟩ = (#[.int .i64 b.f0, .int .u64 b.f1, .int .u64 b.f2, .int .u64 b.f3, .int .u64 b.f4, .slice A5b b.f5.length c5b, .slice A6b b.f6.length c6b, .slice A7b b.f7.length c7b, .slice A8b b.f8.length c8b] : Array Value)[i]?) ∧ (∀ i, W.cell? ⟨W1.heap.size, i, none⟩ = (#[.slice P0 x0.length q0, .slice P1 x1.length q1] : Array Value)[i]?) ∧ (∀ i, W.cell? ⟨W2.heap.size, i, none⟩ = (#[.slice P2 y0.length q2, .slice P3 y1.length q3] : Array Value)[i]?)) (first | exact ⟨fun i => X.out.cell i, fun i => Y.out.cell i, fun i => U.out.cell i, fun i => V.out.cell i⟩ | exact ⟨fun i => blk_cell (blk_far X.out (by show w.heap.size ≠ w.heap.size + 1 + 1; omega) _) i, fun i => blk_cell (blk_far Y.out (by show w.heap.size + 1 ≠ w.heap.size + 1 + 1; omega) _) i, fun i => blk_cell (blk_far U.out (by show W1.heap.size ≠ w.heap.size + 1 + 1; omega) _) i, fun i => blk_cell (blk_far V.out (by show W2.heap.size ≠ w.heap.size + 1 + 1; omega) _) i⟩ | exact ⟨fun i => blk_cell (blk_far (blk_far X.out (by show w.heap.size ≠ w.heap.size + 1 + 1; omega) _) (by show w.heap.size ≠ w.heap.size + 1 + 1; omega) _) i, fun i => blk_cell (blk_far (blk_far Y.out (by show w.heap.size + 1 ≠ w.heap.size + 1 + 1; omega) _) (by show w.heap.size + 1 ≠ w.heap.size + 1 + 1; omega) _) i, fun i => blk_cell (blk_far (blk_far U.out (by show W1.heap.size ≠ w.heap.size + 1 + 1; omega) _) (by show W1.heap.size ≠ w.heap.size + 1 + 1; omega) _) i, fun i => blk_cell (blk_far (blk_far V.out (by show W2.heap.size ≠ w.heap.size + 1 + 1; omega) _) (by show W2.heap.size ≠ w.heap.size + 1 + 1; omega) _) i⟩) (first | (go_at_call 75; (with_reducible refine (HD.out _).mono ?_); rintro e W3 ⟨rfl, hb⟩; replace B := Aside0.mk (below_then B.out B.out.size hb); replace HA := Aside0.mk (HA.out.below hb); replace HC := Aside0.mk (HC.out.below hb); replace SA0 := Aside0.mk (SA0.out.below hb); replace SA1 := Aside0.mk (SA1.out.below hb); replace SB0 := Aside0.mk (SB0.out.below hb); replace SB1 := Aside0.mk (SB1.out.below hb); replace X := Aside0.mk (X.out.below hb); replace hx := fun i => X.out.cell i; replace Y := Aside0.mk (Y.out.below hb); replace hy := fun i => Y.out.cell i; replace Z := Aside0.mk (Z.out.below hb); replace hz := fun i => Z.out.cell i; replace zz := fun i => blk_frozen Z.out i; replace U := Aside0.mk (U.out.below hb); replace hu := fun i => U.out.cell i; replace V := Aside0.mk (V.out.below hb); replace hv := fun i => V.out.cell i; clear  hb) | (go_at_call 77; (with_reducible refine (VD.out _ _ _ _ _ SA0.out SA1.out SB0.out SB1.out).mono ?_); rintro e W4 ⟨rfl, hb⟩; replace B := Aside0.mk (below_then B.out B.out.size hb); replace HA := Aside0.mk (HA.out.below hb); replace HC := Aside0.mk (HC.out.below hb); replace SA0 := Aside0.mk (SA0.out.below hb); replace SA1 := Aside0.mk (SA1.out.below hb); replace SB0 := Aside0.mk (SB0.out.below hb); replace SB1 := Aside0.mk (SB1.out.below hb); replace X := Aside0.mk (X.out.below hb); replace hx := fun i => X.out.cell i; replace Y := Aside0.mk (Y.out.below hb); replace hy := fun i => Y.out.cell i; replace Z := Aside0.mk (Z.out.below hb); replace hz := fun i => Z.out.cell i; replace zz := fun i => blk_frozen Z.out i; replace U := Aside0.mk (U.out.below hb); replace hu := fun i => U.out.cell i; replace V := Aside0.mk (V.out.below hb); replace hv := fun i => V.out.cell i; clear  hb))
  all_goals go_wp2
  all_goals (refine bodyPost_ret (results_ct rfl _ _ (w.heap.size + 1 + 1) 57 #[_, _] (0, 0) _ rfl (blk_put (blk_put (Z.out) 0 _ rfl) 1 _ rfl) Try.underlying57 rfl (by kernel_rfl)) rfl ?_; exact ⟨rfl, belowS B.out.size B.out (by omega)⟩)
end Go.Proofs.Ytefiabakfpfbaaa.P
namespace Go.Proofs.Ytefiabakfpfbaaa.P
open Go.RowKit Go.Shelf Go.Proofs.YtefiabakfpfbaaaW.PrintWords Go.Proofs.YtefiabakfpfbaaaW.PrintLast Go.Proofs.YtefiabakfpfbaaaW.PrintMore
def nameS (a : Int) : ByteArray := if a = 0 then ⟨#[110, 111, 110, 101]⟩ else if a = 1 then ⟨#[115, 99, 104, 101, 109, 97]⟩ else if a = 2 then ⟨#[116, 104, 114, 101, 115, 104, 111, 108, 100]⟩ else if a = 3 then ⟨#[99, 111, 117, 110, 116]⟩ else if a = 4 then ⟨#[122, 101, 114, 111, 32, 99, 111, 117, 110, 116]⟩ else if a = 5 then ⟨#[112, 111, 115, 105, 116, 105, 118, 101]⟩ else if a = 6 then ⟨#[110, 101, 103, 97, 116, 105, 118, 101]⟩ else ⟨#[]⟩
theorem nameS_no {a : Int} (h : ¬ (0 ≤ a ∧ a ≤ 6)) : nameS a = ⟨#[]⟩ := by
  unfold nameS
  rw [if_neg (by omega), if_neg (by omega), if_neg (by omega), if_neg (by omega), if_neg (by omega), if_neg (by omega), if_neg (by omega)]
set_option maxHeartbeats 4000000 in
set_option maxRecDepth 100000 in
theorem name_c (a : Int) (w : World) : Calls Try.prog 69 #[.int .i64 a] w fun e w' => e = .returned (.string (nameS a)) ∧ Below w.heap.size w w' := by
  have hu := Try.underlying163
  by_cases h : 0 ≤ a ∧ a ≤ 6
  · have X := Blk.new w #[.string ⟨#[110, 111, 110, 101]⟩, .string ⟨#[115, 99, 104, 101, 109, 97]⟩, .string ⟨#[116, 104, 114, 101, 115, 104, 111, 108, 100]⟩, .string ⟨#[99, 111, 117, 110, 116]⟩, .string ⟨#[122, 101, 114, 111, 32, 99, 111, 117, 110, 116]⟩, .string ⟨#[112, 111, 115, 105, 116, 105, 118, 101]⟩, .string ⟨#[110, 101, 103, 97, 116, 105, 118, 101]⟩] 163
    have hx := fun i => X.cell i
    obtain h | h | h | h | h | h | h : a = 0 ∨ a = 1 ∨ a = 2 ∨ a = 3 ∨ a = 4 ∨ a = 5 ∨ a = 6 := by omega
    all_goals subst h
    all_goals go_enter Try.func69, Try.ntmps69
    all_goals go_wp2
    all_goals go_ret
    all_goals exact ⟨rfl, below_alloc (Below.refl _ _) _⟩
  · rw [nameS_no h]
    by_cases h1 : a < 0
    · have d1 : decide (a < 0) = true := decide_eq_true h1
      clear h h1
      go_enter Try.func69, Try.ntmps69
      go_wp2
      go_ret
      exact ⟨rfl, below_alloc (Below.refl _ _) _⟩
    · have d1 : decide (a < 0) = false := decide_eq_false h1
      have d2 : decide (7 ≤ a) = true := decide_eq_true (by omega)
      clear h h1
      go_enter Try.func69, Try.ntmps69
      go_wp2
      go_ret
      exact ⟨rfl, below_alloc (Below.refl _ _) _⟩
end Go.Proofs.Ytefiabakfpfbaaa.P
namespace Go.Proofs.Ytefiabakfpfbaaa.P
open Go.RowKit Go.Shelf Go.Proofs.YtefiabakfpfbaaaW.PrintWords Go.Proofs.YtefiabakfpfbaaaW.PrintLast Go.Proofs.YtefiabakfpfbaaaW.PrintMore
theorem reps_one_span (w : World) (a b : Int) : Reps (k111.K w) 2 [(⟨a, b⟩ : S111)] [.int .i64 a, .int .i64 b] := by
  refine ⟨rfl, fun j p hj => ?_⟩
  cases j with
  | zero => injection hj with hj; subst hj; exact k111_mk w _
  | succ j => simp at hj
end Go.Proofs.Ytefiabakfpfbaaa.P
namespace Go.Proofs.Ytefiabakfpfbaaa.P
open Go.RowKit Go.Shelf Go.Proofs.YtefiabakfpfbaaaW.PrintWords Go.Proofs.YtefiabakfpfbaaaW.PrintLast Go.Proofs.YtefiabakfpfbaaaW.PrintMore
def awA : Hi := ⟨0, 0, 0, 6, 0, [⟨3, 2⟩], [], [5, -4], []⟩
def awB : Hi := ⟨0, 0, 0, 9, 0, [⟨3, 1⟩], [], [9], []⟩
def awF : Fh := ⟨1, 0, 0, 0, 0, [], [], [], []⟩
theorem awA_wf : wfH awA := by unfold wfH; decide
theorem awB_wf : wfH awB := by unfold wfH; decide
theorem awF_wf : wfF awF := by unfold wfF; decide
theorem awE_wf : wfF emptyF := by unfold wfF; decide
theorem aw11_1 : intsR awA awB = ((5, 4), 0) := by kernel_rfl
theorem aw11_2 : intsR awB awA = ((3, 0), 0) := by kernel_rfl
theorem aw11_3 : floatsR awF emptyF = ((1, 0), 0) := by kernel_rfl
theorem aw11_4 : sameR awA awA = true := by kernel_rfl
theorem hp_at {w : World} {k : Nat} (h : w.heap.size = k) (o : Obj) : (w.alloc o).heap[k]? = some o := h ▸ heap_alloc_new w o
theorem hp_old {w : World} {k : Nat} {o' : Obj} (o : Obj) (h : w.heap[k]? = some o') : (w.alloc o).heap[k]? = some o' := by
  have hk : k < w.heap.size := by
    rcases Nat.lt_or_ge k w.heap.size with h1 | h1
    · exact h1
    · rw [Array.getElem?_eq_none h1] at h; cases h
  show (w.heap.push o)[k]? = _
  rw [Array.getElem?_push, if_neg (by omega)]; exact h
theorem aw11_5 : nameS 5 = ⟨#[112, 111, 115, 105, 116, 105, 118, 101]⟩ := rfl
theorem lit6 (w : World) (o1 o2 o3 o4 o5 o6 : Obj) :
    let W := ((((((w.alloc o1).alloc o2).alloc o3).alloc o4).alloc o5).alloc o6)
    W.heap[w.heap.size]? = some o1 ∧ W.heap[w.heap.size + 1]? = some o2 ∧ W.heap[w.heap.size + 1 + 1]? = some o3 ∧ W.heap[w.heap.size + 1 + 1 + 1]? = some o4 ∧ W.heap[w.heap.size + 1 + 1 + 1 + 1]? = some o5 ∧ W.heap[w.heap.size + 1 + 1 + 1 + 1 + 1]? = some o6 ∧ Below w.heap.size w W := by
  exact ⟨(hp_old o6 (hp_old o5 (hp_old o4 (hp_old o3 (hp_old o2 (hp_at (w := w) (by simp) o1)))))), (hp_old o6 (hp_old o5 (hp_old o4 (hp_old o3 (hp_at (w := (w.alloc o1)) (by simp) o2))))), (hp_old o6 (hp_old o5 (hp_old o4 (hp_at (w := ((w.alloc o1).alloc o2)) (by simp) o3)))), (hp_old o6 (hp_old o5 (hp_at (w := (((w.alloc o1).alloc o2).alloc o3)) (by simp) o4))), (hp_old o6 (hp_at (w := ((((w.alloc o1).alloc o2).alloc o3).alloc o4)) (by simp) o5)), (hp_at (w := (((((w.alloc o1).alloc o2).alloc o3).alloc o4).alloc o5)) (by simp) o6), below_alloc (below_alloc (below_alloc (below_alloc (below_alloc (below_alloc (Below.refl _ _) _) _) _) _) _) _⟩
set_option maxHeartbeats 16000000 in
set_option maxRecDepth 100000 in
theorem awake11_c (w : World) : Calls Try.prog 24 #[] w fun e w' => e = .returned (.bool true) ∧ Below w.heap.size w w' := by
  have hu1 := Try.underlying111
  have hu2 := Try.underlying26
  have hu3 := Try.underlying57
  have hu4 := Try.underlying53
  have k1 := resetI_c awA awB awA_wf awB_wf
  have k2 := resetI_c awB awA awB_wf awA_wf
  have k4 := same11_c awA awA awA_wf awA_wf
  have k3 := fun w => resetF_c awF emptyF awF_wf awE_wf w (.agg #[.int .i64 1, .int .u64 0, .int .u64 0, .int .u64 0, .int .u64 0, .slice none 0 0, .slice none 0 0, .slice none 0 0, .slice none 0 0]) (.agg #[.int .i64 0, .int .u64 0, .int .u64 0, .int .u64 0, .int .u64 0, .slice none 0 0, .slice none 0 0, .slice none 0 0, .slice none 0 0]) (GI.mk (h := awF) (SI.nil _ _) (SI.nil _ _) (SI.nil _ _) (SI.nil _ _)) (GI.mk (h := emptyF) (SI.nil _ _) (SI.nil _ _) (SI.nil _ _) (SI.nil _ _))
  rw [aw11_1] at k1
  rw [aw11_2] at k2
  rw [aw11_3] at k3
  rw [aw11_4] at k4
  have k5 := name_c 5
  rw [aw11_5] at k5
  have K5 := Aside0.mk k5
  clear k5
  have K1 := Aside0.mk k1
  have K2 := Aside0.mk k2
  have K3 := Aside0.mk k3
  have K4 := Aside0.mk k4
  clear k1 k2 k3 k4
  obtain ⟨b1, b2, b3, b4, b5, b6, bb⟩ := lit6 w (.cells #[.int .i64 3, .int .i64 2] 111) (.cells #[.int .i64 5, .int .i64 (-4)] 2) (.cells #[.int .i64 0, .int .u64 0, .int .u64 0, .int .u64 6, .int .u64 0, .slice (some ⟨w.heap.size, 0, none⟩) 1 1, .slice none 0 0, .slice (some ⟨w.heap.size + 1, 0, none⟩) 2 2, .slice none 0 0] 26) (.cells #[.int .i64 3, .int .i64 1] 111) (.cells #[.int .i64 9] 2) (.cells #[.int .i64 0, .int .u64 0, .int .u64 0, .int .u64 9, .int .u64 0, .slice (some ⟨w.heap.size + 1 + 1 + 1, 0, none⟩) 1 1, .slice none 0 0, .slice (some ⟨w.heap.size + 1 + 1 + 1 + 1, 0, none⟩) 1 1, .slice none 0 0] 26)
  have B := Aside0.mk bb
  have X := Aside0.mk (show Blk ((((((w.alloc (.cells #[.int .i64 3, .int .i64 2] 111)).alloc (.cells #[.int .i64 5, .int .i64 (-4)] 2)).alloc (.cells #[.int .i64 0, .int .u64 0, .int .u64 0, .int .u64 6, .int .u64 0, .slice (some ⟨w.heap.size, 0, none⟩) 1 1, .slice none 0 0, .slice (some ⟨w.heap.size + 1, 0, none⟩) 2 2, .slice none 0 0] 26)).alloc (.cells #[.int .i64 3, .int .i64 1] 111)).alloc (.cells #[.int .i64 9] 2)).alloc (.cells #[.int .i64 0, .int .u64 0, .int .u64 0, .int .u64 9, .int .u64 0, .slice (some ⟨w.heap.size + 1 + 1 + 1, 0, none⟩) 1 1, .slice none 0 0, .slice (some ⟨w.heap.size + 1 + 1 + 1 + 1, 0, none⟩) 1 1, .slice none 0 0] 26)) (w.heap.size + 1 + 1) #[.int .i64 0, .int .u64 0, .int .u64 0, .int .u64 6, .int .u64 0, .slice (some ⟨w.heap.size, 0, none⟩) 1 1, .slice none 0 0, .slice (some ⟨w.heap.size + 1, 0, none⟩) 2 2, .slice none 0 0] 26 from b3)
  have Y := Aside0.mk (show Blk ((((((w.alloc (.cells #[.int .i64 3, .int .i64 2] 111)).alloc (.cells #[.int .i64 5, .int .i64 (-4)] 2)).alloc (.cells #[.int .i64 0, .int .u64 0, .int .u64 0, .int .u64 6, .int .u64 0, .slice (some ⟨w.heap.size, 0, none⟩) 1 1, .slice none 0 0, .slice (some ⟨w.heap.size + 1, 0, none⟩) 2 2, .slice none 0 0] 26)).alloc (.cells #[.int .i64 3, .int .i64 1] 111)).alloc (.cells #[.int .i64 9] 2)).alloc (.cells #[.int .i64 0, .int .u64 0, .int .u64 0, .int .u64 9, .int .u64 0, .slice (some ⟨w.heap.size + 1 + 1 + 1, 0, none⟩) 1 1, .slice none 0 0, .slice (some ⟨w.heap.size + 1 + 1 + 1 + 1, 0, none⟩) 1 1, .slice none 0 0] 26)) (w.heap.size + 1 + 1 + 1 + 1 + 1) #[.int .i64 0, .int .u64 0, .int .u64 0, .int .u64 9, .int .u64 0, .slice (some ⟨w.heap.size + 1 + 1 + 1, 0, none⟩) 1 1, .slice none 0 0, .slice (some ⟨w.heap.size + 1 + 1 + 1 + 1, 0, none⟩) 1 1, .slice none 0 0] 26 from b6)
  have hx := fun i => X.out.cell i
  have hy := fun i => Y.out.cell i
  have HA := Aside0.mk (show HI ((((((w.alloc (.cells #[.int .i64 3, .int .i64 2] 111)).alloc (.cells #[.int .i64 5, .int .i64 (-4)] 2)).alloc (.cells #[.int .i64 0, .int .u64 0, .int .u64 0, .int .u64 6, .int .u64 0, .slice (some ⟨w.heap.size, 0, none⟩) 1 1, .slice none 0 0, .slice (some ⟨w.heap.size + 1, 0, none⟩) 2 2, .slice none 0 0] 26)).alloc (.cells #[.int .i64 3, .int .i64 1] 111)).alloc (.cells #[.int .i64 9] 2)).alloc (.cells #[.int .i64 0, .int .u64 0, .int .u64 0, .int .u64 9, .int .u64 0, .slice (some ⟨w.heap.size + 1 + 1 + 1, 0, none⟩) 1 1, .slice none 0 0, .slice (some ⟨w.heap.size + 1 + 1 + 1 + 1, 0, none⟩) 1 1, .slice none 0 0] 26)) (.agg #[.int .i64 0, .int .u64 0, .int .u64 0, .int .u64 6, .int .u64 0, .slice (some ⟨w.heap.size, 0, none⟩) 1 1, .slice none 0 0, .slice (some ⟨w.heap.size + 1, 0, none⟩) 2 2, .slice none 0 0]) awA from HI.mk (h := awA) (.of (C_of_blk [(⟨3, 2⟩ : S111)] b1 (reps_one_span _ 3 2) (by decide)) (by decide)) (SI.nil _ _) (.of (C_of_blk [5, -4] b2 (reps_nums _ .i64 [5, -4]) (by decide)) (by decide)) (SI.nil _ _))
  have HC := Aside0.mk (show HI ((((((w.alloc (.cells #[.int .i64 3, .int .i64 2] 111)).alloc (.cells #[.int .i64 5, .int .i64 (-4)] 2)).alloc (.cells #[.int .i64 0, .int .u64 0, .int .u64 0, .int .u64 6, .int .u64 0, .slice (some ⟨w.heap.size, 0, none⟩) 1 1, .slice none 0 0, .slice (some ⟨w.heap.size + 1, 0, none⟩) 2 2, .slice none 0 0] 26)).alloc (.cells #[.int .i64 3, .int .i64 1] 111)).alloc (.cells #[.int .i64 9] 2)).alloc (.cells #[.int .i64 0, .int .u64 0, .int .u64 0, .int .u64 9, .int .u64 0, .slice (some ⟨w.heap.size + 1 + 1 + 1, 0, none⟩) 1 1, .slice none 0 0, .slice (some ⟨w.heap.size + 1 + 1 + 1 + 1, 0, none⟩) 1 1, .slice none 0 0] 26)) (.agg #[.int .i64 0, .int .u64 0, .int .u64 0, .int .u64 9, .int .u64 0, .slice (some ⟨w.heap.size + 1 + 1 + 1, 0, none⟩) 1 1, .slice none 0 0, .slice (some ⟨w.heap.size + 1 + 1 + 1 + 1, 0, none⟩) 1 1, .slice none 0 0]) awB from HI.mk (h := awB) (.of (C_of_blk [(⟨3, 1⟩ : S111)] b4 (reps_one_span _ 3 1) (by decide)) (by decide)) (SI.nil _ _) (.of (C_of_blk [9] b5 (reps_nums _ .i64 [9]) (by decide)) (by decide)) (SI.nil _ _))
  clear b1 b2 b3 b4 b5 b6 bb
  go_enter Try.func24, Try.ntmps24
  go_wp2_with (first | (go_at_call 26; (with_reducible refine (K1.out _ _ _ HA.out HC.out).mono ?_); rintro e W1 ⟨rfl, hb⟩; replace B := Aside0.mk (below_then B.out B.out.size hb); replace HA := Aside0.mk (HA.out.below hb); replace HC := Aside0.mk (HC.out.below hb); replace X := Aside0.mk (X.out.below hb); replace hx := fun i => X.out.cell i; replace Y := Aside0.mk (Y.out.below hb); replace hy := fun i => Y.out.cell i; have hxa := fun i => (X.out.alloc (.cells #[.int .i64 5, .int .i64 4] 57)).cell i; have hya := fun i => (Y.out.alloc (.cells #[.int .i64 5, .int .i64 4] 57)).cell i; clear  hb))
  (try clear hxa hya)
  have hal := below_alloc (Below.refl W1.heap.size W1) (.cells #[.int .i64 5, .int .i64 4] 57)
  replace B := Aside0.mk (below_then B.out B.out.size hal)
  replace HA := Aside0.mk (HA.out.below hal)
  replace HC := Aside0.mk (HC.out.below hal)
  replace X := Aside0.mk (X.out.alloc (.cells #[.int .i64 5, .int .i64 4] 57)); replace hx := fun i => X.out.cell i
  replace Y := Aside0.mk (Y.out.alloc (.cells #[.int .i64 5, .int .i64 4] 57)); replace hy := fun i => Y.out.cell i
  have U := Aside0.mk (Blk.new W1 #[.int .i64 5, .int .i64 4] 57); have hu := fun i => U.out.cell i; clear hal
  go_wp2_with (first | (go_at_call 26; (with_reducible refine (K2.out _ _ _ HC.out HA.out).mono ?_); rintro e W2 ⟨rfl, hb⟩; replace B := Aside0.mk (below_then B.out B.out.size hb); replace HA := Aside0.mk (HA.out.below hb); replace HC := Aside0.mk (HC.out.below hb); replace X := Aside0.mk (X.out.below hb); replace hx := fun i => X.out.cell i; replace Y := Aside0.mk (Y.out.below hb); replace hy := fun i => Y.out.cell i; replace U := Aside0.mk (U.out.below hb); replace hu := fun i => U.out.cell i; have hxa := fun i => (X.out.alloc (.cells #[.int .i64 3, .int .i64 0] 57)).cell i; have hya := fun i => (Y.out.alloc (.cells #[.int .i64 3, .int .i64 0] 57)).cell i; have hua := fun i => (U.out.alloc (.cells #[.int .i64 3, .int .i64 0] 57)).cell i; clear  hb))
  (try clear hxa hya hua)
  have hal := below_alloc (Below.refl W2.heap.size W2) (.cells #[.int .i64 3, .int .i64 0] 57)
  replace B := Aside0.mk (below_then B.out B.out.size hal)
  replace HA := Aside0.mk (HA.out.below hal)
  replace HC := Aside0.mk (HC.out.below hal)
  replace X := Aside0.mk (X.out.alloc (.cells #[.int .i64 3, .int .i64 0] 57)); replace hx := fun i => X.out.cell i
  replace Y := Aside0.mk (Y.out.alloc (.cells #[.int .i64 3, .int .i64 0] 57)); replace hy := fun i => Y.out.cell i
  replace U := Aside0.mk (U.out.alloc (.cells #[.int .i64 3, .int .i64 0] 57)); replace hu := fun i => U.out.cell i
  have V := Aside0.mk (Blk.new W2 #[.int .i64 3, .int .i64 0] 57); have hv := fun i => V.out.cell i; clear hal
  go_wp2_with (first | (go_at_call 27; (with_reducible refine (K3.out _).mono ?_); rintro e W3 ⟨rfl, hb⟩; replace B := Aside0.mk (below_then B.out B.out.size hb); replace HA := Aside0.mk (HA.out.below hb); replace HC := Aside0.mk (HC.out.below hb); replace X := Aside0.mk (X.out.below hb); replace hx := fun i => X.out.cell i; replace Y := Aside0.mk (Y.out.below hb); replace hy := fun i => Y.out.cell i; replace U := Aside0.mk (U.out.below hb); replace hu := fun i => U.out.cell i; replace V := Aside0.mk (V.out.below hb); replace hv := fun i => V.out.cell i; have hxa := fun i => (X.out.alloc (.cells #[.int .i64 1, .int .i64 0] 57)).cell i; have hya := fun i => (Y.out.alloc (.cells #[.int .i64 1, .int .i64 0] 57)).cell i; have hua := fun i => (U.out.alloc (.cells #[.int .i64 1, .int .i64 0] 57)).cell i; have hva := fun i => (V.out.alloc (.cells #[.int .i64 1, .int .i64 0] 57)).cell i; clear  hb))
  (try clear hxa hya hua hva)
  have hal := below_alloc (Below.refl W3.heap.size W3) (.cells #[.int .i64 1, .int .i64 0] 57)
  replace B := Aside0.mk (below_then B.out B.out.size hal)
  replace HA := Aside0.mk (HA.out.below hal)
  replace HC := Aside0.mk (HC.out.below hal)
  replace X := Aside0.mk (X.out.alloc (.cells #[.int .i64 1, .int .i64 0] 57)); replace hx := fun i => X.out.cell i
  replace Y := Aside0.mk (Y.out.alloc (.cells #[.int .i64 1, .int .i64 0] 57)); replace hy := fun i => Y.out.cell i
  replace U := Aside0.mk (U.out.alloc (.cells #[.int .i64 1, .int .i64 0] 57)); replace hu := fun i => U.out.cell i
  replace V := Aside0.mk (V.out.alloc (.cells #[.int .i64 1, .int .i64 0] 57)); replace hv := fun i => V.out.cell i
  have T := Aside0.mk (Blk.new W3 #[.int .i64 1, .int .i64 0] 57); have ht := fun i => T.out.cell i; clear hal
  go_wp2_with (first | (go_at_call 68; (with_reducible refine (K4.out _ _ _ HA.out HA.out).mono ?_); rintro e W4 ⟨rfl, hb⟩; replace B := Aside0.mk (below_then B.out B.out.size hb); replace HA := Aside0.mk (HA.out.below hb); replace HC := Aside0.mk (HC.out.below hb); replace X := Aside0.mk (X.out.below hb); replace hx := fun i => X.out.cell i; replace Y := Aside0.mk (Y.out.below hb); replace hy := fun i => Y.out.cell i; replace U := Aside0.mk (U.out.below hb); replace hu := fun i => U.out.cell i; replace V := Aside0.mk (V.out.below hb); replace hv := fun i => V.out.cell i; replace T := Aside0.mk (T.out.below hb); replace ht := fun i => T.out.cell i; clear  hb) | (go_at_call 69; (with_reducible refine (K5.out _).mono ?_); rintro e W5 ⟨rfl, hb⟩; replace B := Aside0.mk (below_then B.out B.out.size hb); replace HA := Aside0.mk (HA.out.below hb); replace HC := Aside0.mk (HC.out.below hb); replace X := Aside0.mk (X.out.below hb); replace hx := fun i => X.out.cell i; replace Y := Aside0.mk (Y.out.below hb); replace hy := fun i => Y.out.cell i; replace U := Aside0.mk (U.out.below hb); replace hu := fun i => U.out.cell i; replace V := Aside0.mk (V.out.below hb); replace hv := fun i => V.out.cell i; replace T := Aside0.mk (T.out.below hb); replace ht := fun i => T.out.cell i; clear  hb))
  go_ret
  exact ⟨rfl, B.out⟩
end Go.Proofs.Ytefiabakfpfbaaa.P
namespace Go.Proofs.Ytefiabakfpfbaaa.P
open Go.RowKit Go.Proofs.YtefiabakfpfbaaaW.PrintWords Go.Proofs.YtefiabakfpfbaaaW.PrintLast Go.Proofs.YtefiabakfpfbaaaW.PrintMore
attribute [local go_sem] max2_int min2_int max_two min_two max_three min_three max_four min_four
def tidepolelaw11_few.l0 : Nat → Int → List (S111) → Int → Int → Option (Bool)
 | 0, _, _, _, _ => none
 | k + 1, x3, x6, x7, x8 => if x8 < x7 then (if 0 ≤ x8 then (if x8 < (x6.length : Int) then (if ((rd_T111 x6 x8).f1) > 0 then (if (wrap64 ((wrap64 (x3 + (wrap64 (1 + (wrap64 (Int.tdiv (mn ((rd_T111 x6 x8).f1) 5000) 10)))))) + 1)) > 400 then (some false) else (tidepolelaw11_few.l0 k (wrap64 ((wrap64 (x3 + (wrap64 (1 + (wrap64 (Int.tdiv (mn ((rd_T111 x6 x8).f1) 5000) 10)))))) + 1)) x6 x7 (wrap64 (x8 + 1)))) else (if (wrap64 (x3 + 1)) > 400 then (some false) else (tidepolelaw11_few.l0 k (wrap64 (x3 + 1)) x6 x7 (wrap64 (x8 + 1))))) else (none)) else (none)) else (some true)
def tidepolelaw11_few.f (k : Nat) (l0 : List (S111)) : Option (Bool) := tidepolelaw11_few.l0 k 0 l0 (l0.length : Int) 0
set_option maxHeartbeats 8000000 in
set_option maxRecDepth 100000 in
theorem tidepolelaw11_few.calls (k : Nat) (A0 : Option Addr) (c0 : Nat) (l0 : List (S111)) (r : Bool) (w : World) (hr0 : Kd.C k111 w A0 l0.length l0) (hc0 : l0.length ≤ c0) (h : tidepolelaw11_few.f k l0 = some r) :
  Calls Try.prog 67 #[.slice A0 l0.length c0] w fun e w' => e = .returned (.bool r) ∧ Below w.heap.size w w' := by
 have hu111 := Try.underlying111
 have HR0 := Aside0.mk hr0
 have HC0 := Aside0.mk hc0
 clear hr0 hc0
 have HB := Aside0.mk (Below.refl w.heap.size w)
 have H : (tidepolelaw11_few.l0 k 0 l0 (l0.length : Int) 0) = some r := h
 clear h
 have H' := Aside0.mk H
 clear H
 go_enter Try.func67, Try.ntmps67
 go_wp2
 go_loopg [3, 8] k (fun kq v3 v8 w' => ∃ (x3_1 : Int) (x8_1 : Int), v3 = .int .i64 x3_1 ∧ v8 = .int .i64 x8_1 ∧ Aside0 (tidepolelaw11_few.l0 kq x3_1 l0 (l0.length : Int) x8_1 = some r) ∧ Aside0 (kq ≤ k) ∧ Aside0 (Below w.heap.size w w'))
 case atStart => exact ⟨(0), (0), (by first | rfl | (simp; done) | (simp [*]; done)), (by first | rfl | (simp; done) | (simp [*]; done)), H', ⟨Nat.le_refl _⟩, ⟨by repeat (first | (with_reducible first | exact HB.out | apply below_alloc | apply pw_below_drewN | apply below_drew1) | exact HB.out)⟩⟩
 case round =>
  clear H'
  obtain ⟨x3_1, x8_1, rfl, rfl, HA, HK1, HB⟩ := hrel
  cases gk with
  | zero => exact absurd HA.out (by simp [tidepolelaw11_few.l0])
  | succ k1 =>
   have H := HA.out
   clear HA
   simp only [tidepolelaw11_few.l0] at H
   by_cases c2 : x8_1 < (l0.length : Int)
   ·rw [if_pos c2] at H
    have c2b0 : decide (x8_1 < (l0.length : Int)) = true := decide_eq_true c2
    clear c2
    by_cases c3 : 0 ≤ x8_1
    ·rw [if_pos c3] at H
     have c3b0 : decide (0 ≤ x8_1) = true := decide_eq_true c3
     clear c3
     by_cases c4 : x8_1 < (l0.length : Int)
     ·rw [if_pos c4] at H
      have c4b0 : decide (x8_1 < (l0.length : Int)) = true := decide_eq_true c4
      clear c4
      by_cases c5 : ((rd_T111 l0 x8_1).f1) > 0
      ·rw [if_pos c5] at H
       have c5b0 : decide (0 < ((rd_T111 l0 x8_1).f1)) = true := decide_eq_true c5
       clear c5
       obtain ⟨ji6, hji6⟩ : ∃ j_ : Int, (mn ((rd_T111 l0 x8_1).f1) 5000) = j_ := ⟨_, rfl⟩
       replace H : (if (wrap64 ((wrap64 (x3_1 + (wrap64 (1 + (wrap64 (Int.tdiv (ji6) 10)))))) + 1)) > 400 then (some false) else (tidepolelaw11_few.l0 k1 (wrap64 ((wrap64 (x3_1 + (wrap64 (1 + (wrap64 (Int.tdiv (ji6) 10)))))) + 1)) l0 (l0.length : Int) (wrap64 (x8_1 + 1)))) = some r := by first | (rw [hji6] at H; exact H) | (simp only [hji6] at H ⊢; exact H)
       have hji6_ : (if 5000 < ((rd_T111 l0 x8_1).f1) then 5000 else ((rd_T111 l0 x8_1).f1)) = ji6 := hji6
       by_cases c7 : (wrap64 ((wrap64 (x3_1 + (wrap64 (1 + (wrap64 (Int.tdiv (ji6) 10)))))) + 1)) > 400
       ·rw [if_pos c7] at H
        have c7b0 : decide (400 < (wrap64 ((wrap64 (x3_1 + (wrap64 (1 + (wrap64 (Int.tdiv (ji6) 10)))))) + 1))) = true := decide_eq_true c7
        clear c7
        obtain rfl := Option.some.inj H
        have p101 : 0 ≤ (x8_1 : Int) := of_decide_eq_true (by first | (with_reducible assumption) | assumption)
        have q101 : x8_1 < (l0.length : Int) := of_decide_eq_true (by first | (with_reducible assumption) | assumption)
        obtain ⟨ad101, e101, hx101_0, hx101_1⟩ := at_T111 HR0.out x8_1 p101 q101
        cases e101
        replace hx101_0 := (HB.out.cell (World.block_lt_of_cell? w _ hx101_0)).trans hx101_0
        replace hx101_1 := (HB.out.cell (World.block_lt_of_cell? w _ hx101_1)).trans hx101_1
        replace p101 := eq_true p101
        replace q101 := eq_true q101
        go_wp2_with (first | ((with_reducible refine gate_dst (N := 5) rfl ?_); refine box_event ?hg (N := 5) ?hd (cs := #[.int .i64 0, .int .i64 0]) (t := 111) ?hr ?_; (case hd => rfl); (case hg => rfl); (case hr => first | (go_simp; done) | (go_simp; rfl)); intro gb102 hg w8 hbox hb; have n0_ := Aside0.mk (below_step (by repeat (first | (with_reducible first | exact HB.out | apply below_alloc | apply pw_below_drewN | apply below_drew1) | exact HB.out)) hb); have n1_ := Aside0.mk (hbox); have n2_ := Aside0.mk ((by rw [hg]; exact (below_size (by repeat (first | (with_reducible first | exact HB.out | apply below_alloc | apply pw_below_drewN | apply below_drew1) | exact HB.out))) : w.heap.size ≤ gb102)); have n3_ := Aside0.mk ((by rw [hg]; exact (below_size (by repeat (first | (with_reducible first | exact HB.out | apply below_alloc | apply pw_below_drewN | apply below_drew1) | exact HB.out))) : w.heap.size ≤ gb102)); clear HB; have HB := n0_; have BK102 := n1_; have GW102 := n2_; have GE102 := n3_; clear n0_ n1_ n2_ n3_; clear hb hbox hg; have hcz9_0 : w8.cell? ⟨gb102, 0, none⟩ = some (.int .i64 0) := (blk_cell BK102.out 0).trans rfl; have hcz9_1 : w8.cell? ⟨gb102, 1, none⟩ = some (.int .i64 0) := (blk_cell BK102.out 1).trans rfl; have hfz9_0 := blk_frozen BK102.out 0; have hfz9_1 := blk_frozen BK102.out 1))
        go_ret
        exact ⟨by first | rfl | (simp [errW_none, errW_some] <;> rfl) | (simp only [← hji6]; first | rfl | (simp [errW_none, errW_some] <;> rfl)) | (simp [*, errW_none, errW_some] <;> rfl), by repeat (first | (with_reducible first | exact HB.out | apply below_alloc | apply pw_below_drewN | apply below_drew1 | refine below_set ?_ GE102.out) | exact HB.out)⟩
       ·rw [if_neg c7] at H
        have c7b0 : decide (400 < (wrap64 ((wrap64 (x3_1 + (wrap64 (1 + (wrap64 (Int.tdiv (ji6) 10)))))) + 1))) = false := decide_eq_false c7
        clear c7
        have H' := Aside0.mk H
        clear H
        have p101 : 0 ≤ (x8_1 : Int) := of_decide_eq_true (by first | (with_reducible assumption) | assumption)
        have q101 : x8_1 < (l0.length : Int) := of_decide_eq_true (by first | (with_reducible assumption) | assumption)
        obtain ⟨ad101, e101, hx101_0, hx101_1⟩ := at_T111 HR0.out x8_1 p101 q101
        cases e101
        replace hx101_0 := (HB.out.cell (World.block_lt_of_cell? w _ hx101_0)).trans hx101_0
        replace hx101_1 := (HB.out.cell (World.block_lt_of_cell? w _ hx101_1)).trans hx101_1
        replace p101 := eq_true p101
        replace q101 := eq_true q101
        go_wp2_with (first | ((with_reducible refine gate_dst (N := 5) rfl ?_); refine box_event ?hg (N := 5) ?hd (cs := #[.int .i64 0, .int .i64 0]) (t := 111) ?hr ?_; (case hd => rfl); (case hg => rfl); (case hr => first | (go_simp; done) | (go_simp; rfl)); intro gb102 hg w10 hbox hb; have n0_ := Aside0.mk (below_step (by repeat (first | (with_reducible first | exact HB.out | apply below_alloc | apply pw_below_drewN | apply below_drew1) | exact HB.out)) hb); have n1_ := Aside0.mk (hbox); have n2_ := Aside0.mk ((by rw [hg]; exact (below_size (by repeat (first | (with_reducible first | exact HB.out | apply below_alloc | apply pw_below_drewN | apply below_drew1) | exact HB.out))) : w.heap.size ≤ gb102)); have n3_ := Aside0.mk ((by rw [hg]; exact (below_size (by repeat (first | (with_reducible first | exact HB.out | apply below_alloc | apply pw_below_drewN | apply below_drew1) | exact HB.out))) : w.heap.size ≤ gb102)); clear HB; have HB := n0_; have BK102 := n1_; have GW102 := n2_; have GE102 := n3_; clear n0_ n1_ n2_ n3_; clear hb hbox hg; have hcz11_0 : w10.cell? ⟨gb102, 0, none⟩ = some (.int .i64 0) := (blk_cell BK102.out 0).trans rfl; have hcz11_1 : w10.cell? ⟨gb102, 1, none⟩ = some (.int .i64 0) := (blk_cell BK102.out 1).trans rfl; have hfz11_0 := blk_frozen BK102.out 0; have hfz11_1 := blk_frozen BK102.out 1))
        go_roundg k1
        case measure => have := HK1.out; omega
        case rel => exact ⟨(wrap64 ((wrap64 (x3_1 + (wrap64 (1 + (wrap64 (Int.tdiv (ji6) 10)))))) + 1)), (wrap64 (x8_1 + 1)), (by first | rfl | (simp; done) | (simp only [← hji6] <;> (first | rfl | simp)) | (simp [*]; done)), (by first | rfl | (simp; done) | (simp [*]; done)), H', ⟨by have := HK1.out; omega⟩, ⟨by repeat (first | (with_reducible first | exact HB.out | apply below_alloc | apply pw_below_drewN | apply below_drew1 | refine below_set ?_ GE102.out) | exact HB.out)⟩⟩
      ·rw [if_neg c5] at H
       have c5b0 : decide (0 < ((rd_T111 l0 x8_1).f1)) = false := decide_eq_false c5
       clear c5
       by_cases c12 : (wrap64 (x3_1 + 1)) > 400
       ·rw [if_pos c12] at H
        have c12b0 : decide (400 < (wrap64 (x3_1 + 1))) = true := decide_eq_true c12
        clear c12
        obtain rfl := Option.some.inj H
        have p101 : 0 ≤ (x8_1 : Int) := of_decide_eq_true (by first | (with_reducible assumption) | assumption)
        have q101 : x8_1 < (l0.length : Int) := of_decide_eq_true (by first | (with_reducible assumption) | assumption)
        obtain ⟨ad101, e101, hx101_0, hx101_1⟩ := at_T111 HR0.out x8_1 p101 q101
        cases e101
        replace hx101_0 := (HB.out.cell (World.block_lt_of_cell? w _ hx101_0)).trans hx101_0
        replace hx101_1 := (HB.out.cell (World.block_lt_of_cell? w _ hx101_1)).trans hx101_1
        replace p101 := eq_true p101
        replace q101 := eq_true q101
        go_wp2_with (first | ((with_reducible refine gate_dst (N := 5) rfl ?_); refine box_event ?hg (N := 5) ?hd (cs := #[.int .i64 0, .int .i64 0]) (t := 111) ?hr ?_; (case hd => rfl); (case hg => rfl); (case hr => first | (go_simp; done) | (go_simp; rfl)); intro gb102 hg w13 hbox hb; have n0_ := Aside0.mk (below_step (by repeat (first | (with_reducible first | exact HB.out | apply below_alloc | apply pw_below_drewN | apply below_drew1) | exact HB.out)) hb); have n1_ := Aside0.mk (hbox); have n2_ := Aside0.mk ((by rw [hg]; exact (below_size (by repeat (first | (with_reducible first | exact HB.out | apply below_alloc | apply pw_below_drewN | apply below_drew1) | exact HB.out))) : w.heap.size ≤ gb102)); have n3_ := Aside0.mk ((by rw [hg]; exact (below_size (by repeat (first | (with_reducible first | exact HB.out | apply below_alloc | apply pw_below_drewN | apply below_drew1) | exact HB.out))) : w.heap.size ≤ gb102)); clear HB; have HB := n0_; have BK102 := n1_; have GW102 := n2_; have GE102 := n3_; clear n0_ n1_ n2_ n3_; clear hb hbox hg; have hcz14_0 : w13.cell? ⟨gb102, 0, none⟩ = some (.int .i64 0) := (blk_cell BK102.out 0).trans rfl; have hcz14_1 : w13.cell? ⟨gb102, 1, none⟩ = some (.int .i64 0) := (blk_cell BK102.out 1).trans rfl; have hfz14_0 := blk_frozen BK102.out 0; have hfz14_1 := blk_frozen BK102.out 1))
        go_ret
        exact ⟨by first | rfl | (simp [errW_none, errW_some] <;> rfl) | (simp [*, errW_none, errW_some] <;> rfl), by repeat (first | (with_reducible first | exact HB.out | apply below_alloc | apply pw_below_drewN | apply below_drew1 | refine below_set ?_ GE102.out) | exact HB.out)⟩
       ·rw [if_neg c12] at H
        have c12b0 : decide (400 < (wrap64 (x3_1 + 1))) = false := decide_eq_false c12
        clear c12
        have H' := Aside0.mk H
        clear H
        have p101 : 0 ≤ (x8_1 : Int) := of_decide_eq_true (by first | (with_reducible assumption) | assumption)
        have q101 : x8_1 < (l0.length : Int) := of_decide_eq_true (by first | (with_reducible assumption) | assumption)
        obtain ⟨ad101, e101, hx101_0, hx101_1⟩ := at_T111 HR0.out x8_1 p101 q101
        cases e101
        replace hx101_0 := (HB.out.cell (World.block_lt_of_cell? w _ hx101_0)).trans hx101_0
        replace hx101_1 := (HB.out.cell (World.block_lt_of_cell? w _ hx101_1)).trans hx101_1
        replace p101 := eq_true p101
        replace q101 := eq_true q101
        go_wp2_with (first | ((with_reducible refine gate_dst (N := 5) rfl ?_); refine box_event ?hg (N := 5) ?hd (cs := #[.int .i64 0, .int .i64 0]) (t := 111) ?hr ?_; (case hd => rfl); (case hg => rfl); (case hr => first | (go_simp; done) | (go_simp; rfl)); intro gb102 hg w15 hbox hb; have n0_ := Aside0.mk (below_step (by repeat (first | (with_reducible first | exact HB.out | apply below_alloc | apply pw_below_drewN | apply below_drew1) | exact HB.out)) hb); have n1_ := Aside0.mk (hbox); have n2_ := Aside0.mk ((by rw [hg]; exact (below_size (by repeat (first | (with_reducible first | exact HB.out | apply below_alloc | apply pw_below_drewN | apply below_drew1) | exact HB.out))) : w.heap.size ≤ gb102)); have n3_ := Aside0.mk ((by rw [hg]; exact (below_size (by repeat (first | (with_reducible first | exact HB.out | apply below_alloc | apply pw_below_drewN | apply below_drew1) | exact HB.out))) : w.heap.size ≤ gb102)); clear HB; have HB := n0_; have BK102 := n1_; have GW102 := n2_; have GE102 := n3_; clear n0_ n1_ n2_ n3_; clear hb hbox hg; have hcz16_0 : w15.cell? ⟨gb102, 0, none⟩ = some (.int .i64 0) := (blk_cell BK102.out 0).trans rfl; have hcz16_1 : w15.cell? ⟨gb102, 1, none⟩ = some (.int .i64 0) := (blk_cell BK102.out 1).trans rfl; have hfz16_0 := blk_frozen BK102.out 0; have hfz16_1 := blk_frozen BK102.out 1))
        go_roundg k1
        case measure => have := HK1.out; omega
        case rel => exact ⟨(wrap64 (x3_1 + 1)), (wrap64 (x8_1 + 1)), (by first | rfl | (simp; done) | (simp [*]; done)), (by first | rfl | (simp; done) | (simp [*]; done)), H', ⟨by have := HK1.out; omega⟩, ⟨by repeat (first | (with_reducible first | exact HB.out | apply below_alloc | apply pw_below_drewN | apply below_drew1 | refine below_set ?_ GE102.out) | exact HB.out)⟩⟩
     ·rw [if_neg c4] at H
      exact absurd H (by simp)
    ·rw [if_neg c3] at H
     exact absurd H (by simp)
   ·rw [if_neg c2] at H
    have c2b0 : decide (x8_1 < (l0.length : Int)) = false := decide_eq_false c2
    clear c2
    obtain rfl := Option.some.inj H
    go_wp2
    go_ret
    exact ⟨by first | rfl | (simp [errW_none, errW_some] <;> rfl) | (simp [*, errW_none, errW_some] <;> rfl), by repeat (first | (with_reducible first | exact HB.out | apply below_alloc | apply pw_below_drewN | apply below_drew1) | exact HB.out)⟩
end Go.Proofs.Ytefiabakfpfbaaa.P
namespace Go.Proofs.Ytefiabakfpfbaaa.P
open Go.RowKit Go.Shelf Go.Proofs.YtefiabakfpfbaaaW.PrintWords Go.Proofs.YtefiabakfpfbaaaW.PrintLast Go.Proofs.YtefiabakfpfbaaaW.PrintMore
def GR (w : World) (v : Value) (h : Fh) : Prop :=
  ∃ v5 v6 v7 v8, v = .agg #[.int .i64 h.f0, .int .u64 h.f1, .int .u64 h.f2, .int .u64 h.f3, .int .u64 h.f4, v5, v6, v7, v8] ∧ SI kRsp w v5 (h.f5.map toR) ∧ SI kRsp w v6 (h.f6.map toR) ∧ SI (Kd.int .u64) w v7 h.f7 ∧ SI (Kd.int .u64) w v8 h.f8
theorem GR.below {w w' : World} {v : Value} {h : Fh} (x : GR w v h) (hb : Below w.heap.size w w') : GR w' v h := by
  obtain ⟨v5, v6, v7, v8, e, h5, h6, h7, h8⟩ := x
  exact ⟨v5, v6, v7, v8, e, h5.below hb, h6.below hb, h7.below hb, h8.below hb⟩
theorem GR.open_ {w : World} {v : Value} {h : Fh} (x : GR w v h) : ∃ A5 c5 A6 c6 A7 c7 A8 c8, v = .agg #[.int .i64 h.f0, .int .u64 h.f1, .int .u64 h.f2, .int .u64 h.f3, .int .u64 h.f4, .slice A5 h.f5.length c5, .slice A6 h.f6.length c6, .slice A7 h.f7.length c7, .slice A8 h.f8.length c8] ∧
    SI kRsp w (.slice A5 h.f5.length c5) (h.f5.map toR) ∧ SI kRsp w (.slice A6 h.f6.length c6) (h.f6.map toR) ∧ SI (Kd.int .u64) w (.slice A7 h.f7.length c7) h.f7 ∧ SI (Kd.int .u64) w (.slice A8 h.f8.length c8) h.f8 := by
  obtain ⟨v5, v6, v7, v8, rfl, h5, h6, h7, h8⟩ := x
  obtain ⟨A5, c5, rfl, h51, h52⟩ := h5
  obtain ⟨A6, c6, rfl, h61, h62⟩ := h6
  obtain ⟨A7, c7, rfl, h71, h72⟩ := h7
  obtain ⟨A8, c8, rfl, h81, h82⟩ := h8
  rw [List.length_map]
  rw [List.length_map]
  refine ⟨A5, c5, A6, c6, A7, c7, A8, c8, rfl, ⟨A5, c5, by rw [List.length_map], h51, h52⟩, ⟨A6, c6, by rw [List.length_map], h61, h62⟩, .of h72 h71, .of h82 h81⟩
theorem few11_c (l : List Sp) (hw : wfSps l) : ∃ b : Bool, (b = true → l.length ≤ 400) ∧ ∀ (w : World) (v : Value), SI kSp w v l → Calls Try.prog 67 #[v] w fun e w' => e = .returned (.bool b) ∧ Below w.heap.size w w' := by
  have hl : ∀ (d k i : Nat) (n : Int), 401 - i = d → d < k → i ≤ l.length → (i : Int) ≤ n → n ≤ 400 → ∃ b, tidepolelaw11_few.l0 k n l (l.length : Int) (i : Int) = some b ∧ (b = true → l.length ≤ 400) := by
    intro d
    induction d with
    | zero => intro k i n hd hk hi h0 h1; omega
    | succ d ih =>
      intro k i n hd hk hi h0 h1
      obtain ⟨k, rfl⟩ : ∃ m, k = m + 1 := ⟨k - 1, by omega⟩
      simp only [tidepolelaw11_few.l0]
      by_cases hlt : i < l.length
      · rw [if_pos (by omega), if_pos (by omega), if_pos (by omega), rdSp_at hlt, wrap_succ (by omega)]
        generalize l[i] = s
        have hrec : ∀ m : Int, n + 1 ≤ m → ∃ b, (if m > 400 then some false else tidepolelaw11_few.l0 k m l (l.length : Int) ((i + 1 : Nat) : Int)) = some b ∧ (b = true → l.length ≤ 400) := by
          intro m hm
          by_cases c : m > 400
          · rw [if_pos c]; exact ⟨false, rfl, fun h => by cases h⟩
          · rw [if_neg c]; exact ih k (i + 1) m (by omega) (by omega) (by omega) (by omega) (by omega)
        by_cases c : s.f1 > 0
        · rw [if_pos c]
          have hmn : 0 ≤ mn s.f1 5000 ∧ mn s.f1 5000 ≤ 5000 := by unfold mn; omega
          have ht := Int.tdiv_eq_ediv_of_nonneg (b := 10) hmn.1
          rw [ht]
          refine hrec _ ?_
          rw [wrap_id (x := mn s.f1 5000 / 10) (by omega) (by omega), wrap_id (x := 1 + mn s.f1 5000 / 10) (by omega) (by omega), wrap_id (x := n + (1 + mn s.f1 5000 / 10)) (by omega) (by omega), wrap_id (by omega) (by omega)]
          omega
        · rw [if_neg c]
          refine hrec _ ?_
          rw [wrap_id (by omega) (by omega)]; omega
      · rw [if_neg (by omega)]; exact ⟨true, rfl, fun _ => by omega⟩
  obtain ⟨b, h1, h2⟩ := hl 401 402 0 0 (by omega) (by omega) (by omega) (by omega) (by omega)
  refine ⟨b, h2, fun w v hv => ?_⟩
  obtain ⟨A, c, rfl, hc, hr⟩ := hv
  exact (tidepolelaw11_few.calls 402 A c l b w hr hc h1).mono fun e w1 h => ⟨h.1, h.2⟩
set_option maxHeartbeats 8000000 in
set_option maxRecDepth 100000 in
theorem small11_c (h : Hi) (hw5 : wfSps h.f5) (hw6 : wfSps h.f6) : ∃ b : Bool, (b = true → h.f5.length ≤ 400 ∧ h.f6.length ≤ 400 ∧ h.f7.length ≤ 300 ∧ h.f8.length ≤ 300) ∧ ∀ (w : World) (v : Value), HI w v h → Calls Try.prog 23 #[v] w fun e w' => e = .returned (.bool b) ∧ Below w.heap.size w w' := by
  obtain ⟨b1, hb1, c1⟩ := few11_c h.f5 hw5
  obtain ⟨b2, hb2, c2⟩ := few11_c h.f6 hw6
  have C1 := Aside0.mk c1
  have C2 := Aside0.mk c2
  have hu := Try.underlying26
  clear c1 c2
  cases b1 with
  | false =>
    refine ⟨false, (fun h => nomatch h), fun w v hv => ?_⟩
    obtain ⟨A5, c5, A6, c6, A7, c7, A8, c8, e, h5, h6, h7, h8⟩ := hv.open_
    subst e
    have B := Aside0.mk (below_alloc (Below.refl w.heap.size w) (.cells #[.int .i64 h.f0, .int .u64 h.f1, .int .u64 h.f2, .int .u64 h.f3, .int .u64 h.f4, .slice A5 h.f5.length c5, .slice A6 h.f6.length c6, .slice A7 h.f7.length c7, .slice A8 h.f8.length c8] 26))
    have X := Aside0.mk (Blk.new w #[.int .i64 h.f0, .int .u64 h.f1, .int .u64 h.f2, .int .u64 h.f3, .int .u64 h.f4, .slice A5 h.f5.length c5, .slice A6 h.f6.length c6, .slice A7 h.f7.length c7, .slice A8 h.f8.length c8] 26)
    have hx := fun i => X.out.cell i
    have H5 := Aside0.mk (h5.below B.out)
    have H6 := Aside0.mk (h6.below B.out)
    clear hv h5 h6 h7 h8
    go_enter Try.func23, Try.ntmps23
    go_wp2_with (first | (go_at_call 67; (with_reducible refine (C1.out _ _ H5.out).mono ?_); rintro e W ⟨rfl, hb⟩; replace B := Aside0.mk (below_then B.out B.out.size hb); replace H5 := Aside0.mk (H5.out.below hb); replace H6 := Aside0.mk (H6.out.below hb); replace X := Aside0.mk (X.out.below hb); replace hx := fun i => X.out.cell i; clear  hb))
    go_ret
    exact ⟨rfl, B.out⟩
  | true =>
    have n1 := hb1 rfl
    cases b2 with
    | false =>
      refine ⟨false, (fun h => nomatch h), fun w v hv => ?_⟩
      obtain ⟨A5, c5, A6, c6, A7, c7, A8, c8, e, h5, h6, h7, h8⟩ := hv.open_
      subst e
      have B := Aside0.mk (below_alloc (Below.refl w.heap.size w) (.cells #[.int .i64 h.f0, .int .u64 h.f1, .int .u64 h.f2, .int .u64 h.f3, .int .u64 h.f4, .slice A5 h.f5.length c5, .slice A6 h.f6.length c6, .slice A7 h.f7.length c7, .slice A8 h.f8.length c8] 26))
      have X := Aside0.mk (Blk.new w #[.int .i64 h.f0, .int .u64 h.f1, .int .u64 h.f2, .int .u64 h.f3, .int .u64 h.f4, .slice A5 h.f5.length c5, .slice A6 h.f6.length c6, .slice A7 h.f7.length c7, .slice A8 h.f8.length c8] 26)
      have hx := fun i => X.out.cell i
      have H5 := Aside0.mk (h5.below B.out)
      have H6 := Aside0.mk (h6.below B.out)
      clear hv h5 h6 h7 h8
      go_enter Try.func23, Try.ntmps23
      go_wp2_with (first | (go_at_call 67; (with_reducible refine (C1.out _ _ H5.out).mono ?_); rintro e W ⟨rfl, hb⟩; replace B := Aside0.mk (below_then B.out B.out.size hb); replace H5 := Aside0.mk (H5.out.below hb); replace H6 := Aside0.mk (H6.out.below hb); replace X := Aside0.mk (X.out.below hb); replace hx := fun i => X.out.cell i; clear  hb) | (go_at_call 67; (with_reducible refine (C2.out _ _ H6.out).mono ?_); rintro e W ⟨rfl, hb⟩; replace B := Aside0.mk (below_then B.out B.out.size hb); replace H5 := Aside0.mk (H5.out.below hb); replace H6 := Aside0.mk (H6.out.below hb); replace X := Aside0.mk (X.out.below hb); replace hx := fun i => X.out.cell i; clear  hb))
      go_ret
      exact ⟨rfl, B.out⟩
    | true =>
      have n2 := hb2 rfl
      by_cases c3 : h.f7.length ≤ 300
      · by_cases c4 : h.f8.length ≤ 300
        · refine ⟨true, fun _ => ⟨n1, n2, c3, c4⟩, fun w v hv => ?_⟩
          have d3 : decide ((h.f7.length : Int) ≤ 300) = true := decide_eq_true (by omega)
          have d4 : decide ((h.f8.length : Int) ≤ 300) = true := decide_eq_true (by omega)
          clear n1 n2 hb1 hb2
          obtain ⟨A5, c5, A6, c6, A7, c7, A8, c8, e, h5, h6, h7, h8⟩ := hv.open_
          subst e
          have B := Aside0.mk (below_alloc (Below.refl w.heap.size w) (.cells #[.int .i64 h.f0, .int .u64 h.f1, .int .u64 h.f2, .int .u64 h.f3, .int .u64 h.f4, .slice A5 h.f5.length c5, .slice A6 h.f6.length c6, .slice A7 h.f7.length c7, .slice A8 h.f8.length c8] 26))
          have X := Aside0.mk (Blk.new w #[.int .i64 h.f0, .int .u64 h.f1, .int .u64 h.f2, .int .u64 h.f3, .int .u64 h.f4, .slice A5 h.f5.length c5, .slice A6 h.f6.length c6, .slice A7 h.f7.length c7, .slice A8 h.f8.length c8] 26)
          have hx := fun i => X.out.cell i
          have H5 := Aside0.mk (h5.below B.out)
          have H6 := Aside0.mk (h6.below B.out)
          clear hv h5 h6 h7 h8
          go_enter Try.func23, Try.ntmps23
          go_wp2_with (first | (go_at_call 67; (with_reducible refine (C1.out _ _ H5.out).mono ?_); rintro e W ⟨rfl, hb⟩; replace B := Aside0.mk (below_then B.out B.out.size hb); replace H5 := Aside0.mk (H5.out.below hb); replace H6 := Aside0.mk (H6.out.below hb); replace X := Aside0.mk (X.out.below hb); replace hx := fun i => X.out.cell i; clear  hb) | (go_at_call 67; (with_reducible refine (C2.out _ _ H6.out).mono ?_); rintro e W ⟨rfl, hb⟩; replace B := Aside0.mk (below_then B.out B.out.size hb); replace H5 := Aside0.mk (H5.out.below hb); replace H6 := Aside0.mk (H6.out.below hb); replace X := Aside0.mk (X.out.below hb); replace hx := fun i => X.out.cell i; clear  hb))
          go_ret
          exact ⟨rfl, B.out⟩
        · refine ⟨false, (fun h => nomatch h), fun w v hv => ?_⟩
          have d3 : decide ((h.f7.length : Int) ≤ 300) = true := decide_eq_true (by omega)
          have d4 : decide ((h.f8.length : Int) ≤ 300) = false := decide_eq_false (by omega)
          clear n1 n2 hb1 hb2
          obtain ⟨A5, c5, A6, c6, A7, c7, A8, c8, e, h5, h6, h7, h8⟩ := hv.open_
          subst e
          have B := Aside0.mk (below_alloc (Below.refl w.heap.size w) (.cells #[.int .i64 h.f0, .int .u64 h.f1, .int .u64 h.f2, .int .u64 h.f3, .int .u64 h.f4, .slice A5 h.f5.length c5, .slice A6 h.f6.length c6, .slice A7 h.f7.length c7, .slice A8 h.f8.length c8] 26))
          have X := Aside0.mk (Blk.new w #[.int .i64 h.f0, .int .u64 h.f1, .int .u64 h.f2, .int .u64 h.f3, .int .u64 h.f4, .slice A5 h.f5.length c5, .slice A6 h.f6.length c6, .slice A7 h.f7.length c7, .slice A8 h.f8.length c8] 26)
          have hx := fun i => X.out.cell i
          have H5 := Aside0.mk (h5.below B.out)
          have H6 := Aside0.mk (h6.below B.out)
          clear hv h5 h6 h7 h8
          go_enter Try.func23, Try.ntmps23
          go_wp2_with (first | (go_at_call 67; (with_reducible refine (C1.out _ _ H5.out).mono ?_); rintro e W ⟨rfl, hb⟩; replace B := Aside0.mk (below_then B.out B.out.size hb); replace H5 := Aside0.mk (H5.out.below hb); replace H6 := Aside0.mk (H6.out.below hb); replace X := Aside0.mk (X.out.below hb); replace hx := fun i => X.out.cell i; clear  hb) | (go_at_call 67; (with_reducible refine (C2.out _ _ H6.out).mono ?_); rintro e W ⟨rfl, hb⟩; replace B := Aside0.mk (below_then B.out B.out.size hb); replace H5 := Aside0.mk (H5.out.below hb); replace H6 := Aside0.mk (H6.out.below hb); replace X := Aside0.mk (X.out.below hb); replace hx := fun i => X.out.cell i; clear  hb))
          go_ret
          exact ⟨rfl, B.out⟩
      · refine ⟨false, (fun h => nomatch h), fun w v hv => ?_⟩
        have d3 : decide ((h.f7.length : Int) ≤ 300) = false := decide_eq_false (by omega)
        clear n1 n2 hb1 hb2
        obtain ⟨A5, c5, A6, c6, A7, c7, A8, c8, e, h5, h6, h7, h8⟩ := hv.open_
        subst e
        have B := Aside0.mk (below_alloc (Below.refl w.heap.size w) (.cells #[.int .i64 h.f0, .int .u64 h.f1, .int .u64 h.f2, .int .u64 h.f3, .int .u64 h.f4, .slice A5 h.f5.length c5, .slice A6 h.f6.length c6, .slice A7 h.f7.length c7, .slice A8 h.f8.length c8] 26))
        have X := Aside0.mk (Blk.new w #[.int .i64 h.f0, .int .u64 h.f1, .int .u64 h.f2, .int .u64 h.f3, .int .u64 h.f4, .slice A5 h.f5.length c5, .slice A6 h.f6.length c6, .slice A7 h.f7.length c7, .slice A8 h.f8.length c8] 26)
        have hx := fun i => X.out.cell i
        have H5 := Aside0.mk (h5.below B.out)
        have H6 := Aside0.mk (h6.below B.out)
        clear hv h5 h6 h7 h8
        go_enter Try.func23, Try.ntmps23
        go_wp2_with (first | (go_at_call 67; (with_reducible refine (C1.out _ _ H5.out).mono ?_); rintro e W ⟨rfl, hb⟩; replace B := Aside0.mk (below_then B.out B.out.size hb); replace H5 := Aside0.mk (H5.out.below hb); replace H6 := Aside0.mk (H6.out.below hb); replace X := Aside0.mk (X.out.below hb); replace hx := fun i => X.out.cell i; clear  hb) | (go_at_call 67; (with_reducible refine (C2.out _ _ H6.out).mono ?_); rintro e W ⟨rfl, hb⟩; replace B := Aside0.mk (below_then B.out B.out.size hb); replace H5 := Aside0.mk (H5.out.below hb); replace H6 := Aside0.mk (H6.out.below hb); replace X := Aside0.mk (X.out.below hb); replace hx := fun i => X.out.cell i; clear  hb))
        go_ret
        exact ⟨rfl, B.out⟩
end Go.Proofs.Ytefiabakfpfbaaa.P
namespace Go.Proofs.Ytefiabakfpfbaaa.P
open Go.RowKit Go.Shelf Go.Proofs.YtefiabakfpfbaaaW.PrintWords Go.Proofs.YtefiabakfpfbaaaW.PrintLast Go.Proofs.YtefiabakfpfbaaaW.PrintMore
def wfI (h : Hi) : Prop := i64 h.f0 ∧ u64 h.f1 ∧ u64 h.f2 ∧ u64 h.f3 ∧ u64 h.f4 ∧ wfSps h.f5 ∧ wfSps h.f6 ∧ i64s h.f7 ∧ i64s h.f8
instance (h : Hi) : Decidable (wfI h) := by unfold wfI; exact inferInstance
theorem i64_all' {l : List Int} (h : ∀ x ∈ l, inI .i64 x) : i64s l := fun x hx => i64_of (h x hx)
theorem wfI_of {x : S26} (h : wf26 x) : wfI x := ⟨i64_of h.1, u64_of h.2.1, u64_of h.2.2.1, u64_of h.2.2.2.1, u64_of h.2.2.2.2.1, wfSps_of h.2.2.2.2.2.1, wfSps_of h.2.2.2.2.2.2.1, i64_all' h.2.2.2.2.2.2.2.1, i64_all' h.2.2.2.2.2.2.2.2⟩
theorem wfH_of {h : Hi} (x : wfI h) (h7 : h.f7.length ≤ 300) (h8 : h.f8.length ≤ 300) : wfH h := ⟨x.1, x.2.1, x.2.2.1, x.2.2.2.1, x.2.2.2.2.1, x.2.2.2.2.2.1, x.2.2.2.2.2.2.1, x.2.2.2.2.2.2.2.1, x.2.2.2.2.2.2.2.2, by omega, by omega⟩
set_option maxHeartbeats 64000000 in
set_option maxRecDepth 100000 in
theorem resetBoth_c (a b : Hi) (hwa : wfI a) (hwb : wfI b) (w : World) (u v : Value) (hua : HI w u a) (hub : HI w v b) : Calls Try.prog 5 #[u, v] w fun e w' => e = .returned (.bool true) ∧ Below w.heap.size w w' := by
  have hud := Try.underlying26
  have huf := Try.underlying53
  have huv := Try.underlying57
  obtain ⟨b1, hb1, cs⟩ := small11_c a hwa.2.2.2.2.2.1 hwa.2.2.2.2.2.2.1
  obtain ⟨b2, hb2, ct⟩ := small11_c b hwb.2.2.2.2.2.1 hwb.2.2.2.2.2.2.1
  have CS := Aside0.mk cs
  have CT := Aside0.mk ct
  clear cs ct
  cases b1 with
  | false =>
    clear hb1 hb2
    obtain ⟨A5a, c5a, A6a, c6a, A7a, c7a, A8a, c8a, e, -⟩ := hua.open_
    subst e
    obtain ⟨A5b, c5b, A6b, c6b, A7b, c7b, A8b, c8b, e, -⟩ := hub.open_
    subst e
    have B := Aside0.mk (below_alloc (below_alloc (Below.refl w.heap.size w) (.cells #[.int .i64 a.f0, .int .u64 a.f1, .int .u64 a.f2, .int .u64 a.f3, .int .u64 a.f4, .slice A5a a.f5.length c5a, .slice A6a a.f6.length c6a, .slice A7a a.f7.length c7a, .slice A8a a.f8.length c8a] 26)) (.cells #[.int .i64 b.f0, .int .u64 b.f1, .int .u64 b.f2, .int .u64 b.f3, .int .u64 b.f4, .slice A5b b.f5.length c5b, .slice A6b b.f6.length c6b, .slice A7b b.f7.length c7b, .slice A8b b.f8.length c8b] 26))
    have X := Aside0.mk ((Blk.new w #[.int .i64 a.f0, .int .u64 a.f1, .int .u64 a.f2, .int .u64 a.f3, .int .u64 a.f4, .slice A5a a.f5.length c5a, .slice A6a a.f6.length c6a, .slice A7a a.f7.length c7a, .slice A8a a.f8.length c8a] 26).alloc (.cells #[.int .i64 b.f0, .int .u64 b.f1, .int .u64 b.f2, .int .u64 b.f3, .int .u64 b.f4, .slice A5b b.f5.length c5b, .slice A6b b.f6.length c6b, .slice A7b b.f7.length c7b, .slice A8b b.f8.length c8b] 26))
    have hx := fun i => X.out.cell i
    have Y := Aside0.mk (show Blk ((w.alloc (.cells #[.int .i64 a.f0, .int .u64 a.f1, .int .u64 a.f2, .int .u64 a.f3, .int .u64 a.f4, .slice A5a a.f5.length c5a, .slice A6a a.f6.length c6a, .slice A7a a.f7.length c7a, .slice A8a a.f8.length c8a] 26)).alloc (.cells #[.int .i64 b.f0, .int .u64 b.f1, .int .u64 b.f2, .int .u64 b.f3, .int .u64 b.f4, .slice A5b b.f5.length c5b, .slice A6b b.f6.length c6b, .slice A7b b.f7.length c7b, .slice A8b b.f8.length c8b] 26)) (w.heap.size + 1) #[.int .i64 b.f0, .int .u64 b.f1, .int .u64 b.f2, .int .u64 b.f3, .int .u64 b.f4, .slice A5b b.f5.length c5b, .slice A6b b.f6.length c6b, .slice A7b b.f7.length c7b, .slice A8b b.f8.length c8b] 26 by have := Blk.new (w.alloc (.cells #[.int .i64 a.f0, .int .u64 a.f1, .int .u64 a.f2, .int .u64 a.f3, .int .u64 a.f4, .slice A5a a.f5.length c5a, .slice A6a a.f6.length c6a, .slice A7a a.f7.length c7a, .slice A8a a.f8.length c8a] 26)) #[.int .i64 b.f0, .int .u64 b.f1, .int .u64 b.f2, .int .u64 b.f3, .int .u64 b.f4, .slice A5b b.f5.length c5b, .slice A6b b.f6.length c6b, .slice A7b b.f7.length c7b, .slice A8b b.f8.length c8b] 26; simpa using this)
    have hy := fun i => Y.out.cell i
    have HA := Aside0.mk (hua.below B.out)
    have HB := Aside0.mk (hub.below B.out)
    clear hua hub
    go_enter Try.func5, Try.ntmps5
    go_wp2_with (first | (go_at_call 23; (with_reducible refine (CS.out _ _ HA.out).mono ?_); rintro e W1 ⟨rfl, hb⟩; replace B := Aside0.mk (below_then B.out B.out.size hb); replace HA := Aside0.mk (HA.out.below hb); replace HB := Aside0.mk (HB.out.below hb); replace X := Aside0.mk (X.out.below hb); replace hx := fun i => X.out.cell i; replace Y := Aside0.mk (Y.out.below hb); replace hy := fun i => Y.out.cell i; clear  hb) | (go_at_call 24; (with_reducible refine (awake11_c _).mono ?_); rintro e W3 ⟨rfl, hb⟩; replace B := Aside0.mk (below_then B.out B.out.size hb); replace HA := Aside0.mk (HA.out.below hb); replace HB := Aside0.mk (HB.out.below hb); replace X := Aside0.mk (X.out.below hb); replace hx := fun i => X.out.cell i; replace Y := Aside0.mk (Y.out.below hb); replace hy := fun i => Y.out.cell i; clear  hb))
    go_ret
    exact ⟨rfl, B.out⟩
  | true =>
  cases b2 with
  | false =>
    clear hb1 hb2
    obtain ⟨A5a, c5a, A6a, c6a, A7a, c7a, A8a, c8a, e, -⟩ := hua.open_
    subst e
    obtain ⟨A5b, c5b, A6b, c6b, A7b, c7b, A8b, c8b, e, -⟩ := hub.open_
    subst e
    have B := Aside0.mk (below_alloc (below_alloc (Below.refl w.heap.size w) (.cells #[.int .i64 a.f0, .int .u64 a.f1, .int .u64 a.f2, .int .u64 a.f3, .int .u64 a.f4, .slice A5a a.f5.length c5a, .slice A6a a.f6.length c6a, .slice A7a a.f7.length c7a, .slice A8a a.f8.length c8a] 26)) (.cells #[.int .i64 b.f0, .int .u64 b.f1, .int .u64 b.f2, .int .u64 b.f3, .int .u64 b.f4, .slice A5b b.f5.length c5b, .slice A6b b.f6.length c6b, .slice A7b b.f7.length c7b, .slice A8b b.f8.length c8b] 26))
    have X := Aside0.mk ((Blk.new w #[.int .i64 a.f0, .int .u64 a.f1, .int .u64 a.f2, .int .u64 a.f3, .int .u64 a.f4, .slice A5a a.f5.length c5a, .slice A6a a.f6.length c6a, .slice A7a a.f7.length c7a, .slice A8a a.f8.length c8a] 26).alloc (.cells #[.int .i64 b.f0, .int .u64 b.f1, .int .u64 b.f2, .int .u64 b.f3, .int .u64 b.f4, .slice A5b b.f5.length c5b, .slice A6b b.f6.length c6b, .slice A7b b.f7.length c7b, .slice A8b b.f8.length c8b] 26))
    have hx := fun i => X.out.cell i
    have Y := Aside0.mk (show Blk ((w.alloc (.cells #[.int .i64 a.f0, .int .u64 a.f1, .int .u64 a.f2, .int .u64 a.f3, .int .u64 a.f4, .slice A5a a.f5.length c5a, .slice A6a a.f6.length c6a, .slice A7a a.f7.length c7a, .slice A8a a.f8.length c8a] 26)).alloc (.cells #[.int .i64 b.f0, .int .u64 b.f1, .int .u64 b.f2, .int .u64 b.f3, .int .u64 b.f4, .slice A5b b.f5.length c5b, .slice A6b b.f6.length c6b, .slice A7b b.f7.length c7b, .slice A8b b.f8.length c8b] 26)) (w.heap.size + 1) #[.int .i64 b.f0, .int .u64 b.f1, .int .u64 b.f2, .int .u64 b.f3, .int .u64 b.f4, .slice A5b b.f5.length c5b, .slice A6b b.f6.length c6b, .slice A7b b.f7.length c7b, .slice A8b b.f8.length c8b] 26 by have := Blk.new (w.alloc (.cells #[.int .i64 a.f0, .int .u64 a.f1, .int .u64 a.f2, .int .u64 a.f3, .int .u64 a.f4, .slice A5a a.f5.length c5a, .slice A6a a.f6.length c6a, .slice A7a a.f7.length c7a, .slice A8a a.f8.length c8a] 26)) #[.int .i64 b.f0, .int .u64 b.f1, .int .u64 b.f2, .int .u64 b.f3, .int .u64 b.f4, .slice A5b b.f5.length c5b, .slice A6b b.f6.length c6b, .slice A7b b.f7.length c7b, .slice A8b b.f8.length c8b] 26; simpa using this)
    have hy := fun i => Y.out.cell i
    have HA := Aside0.mk (hua.below B.out)
    have HB := Aside0.mk (hub.below B.out)
    clear hua hub
    go_enter Try.func5, Try.ntmps5
    go_wp2_with (first | (go_at_call 23; (with_reducible refine (CS.out _ _ HA.out).mono ?_); rintro e W1 ⟨rfl, hb⟩; replace B := Aside0.mk (below_then B.out B.out.size hb); replace HA := Aside0.mk (HA.out.below hb); replace HB := Aside0.mk (HB.out.below hb); replace X := Aside0.mk (X.out.below hb); replace hx := fun i => X.out.cell i; replace Y := Aside0.mk (Y.out.below hb); replace hy := fun i => Y.out.cell i; clear  hb) | (go_at_call 23; (with_reducible refine (CT.out _ _ HB.out).mono ?_); rintro e W2 ⟨rfl, hb⟩; replace B := Aside0.mk (below_then B.out B.out.size hb); replace HA := Aside0.mk (HA.out.below hb); replace HB := Aside0.mk (HB.out.below hb); replace X := Aside0.mk (X.out.below hb); replace hx := fun i => X.out.cell i; replace Y := Aside0.mk (Y.out.below hb); replace hy := fun i => Y.out.cell i; clear  hb) | (go_at_call 24; (with_reducible refine (awake11_c _).mono ?_); rintro e W3 ⟨rfl, hb⟩; replace B := Aside0.mk (below_then B.out B.out.size hb); replace HA := Aside0.mk (HA.out.below hb); replace HB := Aside0.mk (HB.out.below hb); replace X := Aside0.mk (X.out.below hb); replace hx := fun i => X.out.cell i; replace Y := Aside0.mk (Y.out.below hb); replace hy := fun i => Y.out.cell i; clear  hb))
    go_ret
    exact ⟨rfl, B.out⟩
  | true =>
  obtain ⟨n5, n6, n7, n8⟩ := hb1 rfl
  obtain ⟨m5, m6, m7, m8⟩ := hb2 rfl
  have hWa := wfH_of hwa n7 n8
  have hWb := wfH_of hwb m7 m8
  obtain ⟨⟨x, e⟩, hx⟩ : ∃ r, fromR a = r := ⟨_, rfl⟩
  obtain ⟨⟨y, f⟩, hy⟩ : ∃ r, fromR b = r := ⟨_, rfl⟩
  have k1 := resetI_c a b hWa hWb
  have F1 := Aside0.mk (from_c a x e hWa hx)
  have F2 := Aside0.mk (from_c b y f hWb hy)
  have hA3 := hWa.2.2.2.1
  have hB3 := hWb.2.2.2.1
  have he : e = checkR a := by
    unfold fromR at hx
    by_cases c : checkR a = 0
    · rw [if_neg (by simp [c])] at hx; injection hx with _ h; omega
    · rw [if_pos c] at hx; injection hx with _ h; exact h.symm
  have hf : f = checkR b := by
    unfold fromR at hy
    by_cases c : checkR b = 0
    · rw [if_neg (by simp [c])] at hy; injection hy with _ h; omega
    · rw [if_pos c] at hy; injection hy with _ h; exact h.symm
  by_cases c1 : e = 0
  rotate_left
  · have ki : (intsR a b).2 ≠ 0 := by
      unfold intsR
      rw [if_pos (by omega)]
      simp only
      omega
    generalize intsR a b = r1 at *
    obtain ⟨⟨v1, v2⟩, g⟩ := r1
    simp only at k1 ki
    have K1 := Aside0.mk k1
    have d1 : (e != 0) = true := bne_iff_ne.2 c1
    have d2 : (g != 0) = true := bne_iff_ne.2 ki
    clear c1 ki k1 he hf hx hy n5 n6 n7 n8 m5 m6 m7 m8 hb1 hb2 hwa hwb hWa hWb hA3 hB3
    obtain ⟨A5a, c5a, A6a, c6a, A7a, c7a, A8a, c8a, e, -⟩ := hua.open_
    subst e
    obtain ⟨A5b, c5b, A6b, c6b, A7b, c7b, A8b, c8b, e, -⟩ := hub.open_
    subst e
    have B := Aside0.mk (below_alloc (below_alloc (Below.refl w.heap.size w) (.cells #[.int .i64 a.f0, .int .u64 a.f1, .int .u64 a.f2, .int .u64 a.f3, .int .u64 a.f4, .slice A5a a.f5.length c5a, .slice A6a a.f6.length c6a, .slice A7a a.f7.length c7a, .slice A8a a.f8.length c8a] 26)) (.cells #[.int .i64 b.f0, .int .u64 b.f1, .int .u64 b.f2, .int .u64 b.f3, .int .u64 b.f4, .slice A5b b.f5.length c5b, .slice A6b b.f6.length c6b, .slice A7b b.f7.length c7b, .slice A8b b.f8.length c8b] 26))
    have X := Aside0.mk ((Blk.new w #[.int .i64 a.f0, .int .u64 a.f1, .int .u64 a.f2, .int .u64 a.f3, .int .u64 a.f4, .slice A5a a.f5.length c5a, .slice A6a a.f6.length c6a, .slice A7a a.f7.length c7a, .slice A8a a.f8.length c8a] 26).alloc (.cells #[.int .i64 b.f0, .int .u64 b.f1, .int .u64 b.f2, .int .u64 b.f3, .int .u64 b.f4, .slice A5b b.f5.length c5b, .slice A6b b.f6.length c6b, .slice A7b b.f7.length c7b, .slice A8b b.f8.length c8b] 26))
    have hx := fun i => X.out.cell i
    have Y := Aside0.mk (show Blk ((w.alloc (.cells #[.int .i64 a.f0, .int .u64 a.f1, .int .u64 a.f2, .int .u64 a.f3, .int .u64 a.f4, .slice A5a a.f5.length c5a, .slice A6a a.f6.length c6a, .slice A7a a.f7.length c7a, .slice A8a a.f8.length c8a] 26)).alloc (.cells #[.int .i64 b.f0, .int .u64 b.f1, .int .u64 b.f2, .int .u64 b.f3, .int .u64 b.f4, .slice A5b b.f5.length c5b, .slice A6b b.f6.length c6b, .slice A7b b.f7.length c7b, .slice A8b b.f8.length c8b] 26)) (w.heap.size + 1) #[.int .i64 b.f0, .int .u64 b.f1, .int .u64 b.f2, .int .u64 b.f3, .int .u64 b.f4, .slice A5b b.f5.length c5b, .slice A6b b.f6.length c6b, .slice A7b b.f7.length c7b, .slice A8b b.f8.length c8b] 26 by have := Blk.new (w.alloc (.cells #[.int .i64 a.f0, .int .u64 a.f1, .int .u64 a.f2, .int .u64 a.f3, .int .u64 a.f4, .slice A5a a.f5.length c5a, .slice A6a a.f6.length c6a, .slice A7a a.f7.length c7a, .slice A8a a.f8.length c8a] 26)) #[.int .i64 b.f0, .int .u64 b.f1, .int .u64 b.f2, .int .u64 b.f3, .int .u64 b.f4, .slice A5b b.f5.length c5b, .slice A6b b.f6.length c6b, .slice A7b b.f7.length c7b, .slice A8b b.f8.length c8b] 26; simpa using this)
    have hy := fun i => Y.out.cell i
    have HA := Aside0.mk (hua.below B.out)
    have HB := Aside0.mk (hub.below B.out)
    clear hua hub
    go_enter Try.func5, Try.ntmps5
    go_wp2_with (first | (go_at_call 23; (with_reducible refine (CS.out _ _ HA.out).mono ?_); rintro e W1 ⟨rfl, hb⟩; replace B := Aside0.mk (below_then B.out B.out.size hb); replace HA := Aside0.mk (HA.out.below hb); replace HB := Aside0.mk (HB.out.below hb); replace X := Aside0.mk (X.out.below hb); replace hx := fun i => X.out.cell i; replace Y := Aside0.mk (Y.out.below hb); replace hy := fun i => Y.out.cell i; clear  hb) | (go_at_call 23; (with_reducible refine (CT.out _ _ HB.out).mono ?_); rintro e W2 ⟨rfl, hb⟩; replace B := Aside0.mk (below_then B.out B.out.size hb); replace HA := Aside0.mk (HA.out.below hb); replace HB := Aside0.mk (HB.out.below hb); replace X := Aside0.mk (X.out.below hb); replace hx := fun i => X.out.cell i; replace Y := Aside0.mk (Y.out.below hb); replace hy := fun i => Y.out.cell i; clear  hb) | (go_at_call 25; (with_reducible refine (F1.out _ _ HA.out).mono ?_); rintro e W3 ⟨D5x, g5x, D6x, g6x, D7x, g7x, D8x, g8x, rfl, hh, hb⟩; replace B := Aside0.mk (below_then B.out B.out.size hb); replace HA := Aside0.mk (HA.out.below hb); replace HB := Aside0.mk (HB.out.below hb); replace X := Aside0.mk (X.out.below hb); replace hx := fun i => X.out.cell i; replace Y := Aside0.mk (Y.out.below hb); replace hy := fun i => Y.out.cell i; have HX := Aside0.mk hh; have hxa := fun i => (X.out.alloc (.cells #[.int .i64 x.f0, .int .u64 x.f1, .int .u64 x.f2, .int .u64 x.f3, .int .u64 x.f4, .slice D5x x.f5.length g5x, .slice D6x x.f6.length g6x, .slice D7x x.f7.length g7x, .slice D8x x.f8.length g8x] 53)).cell i; have hya := fun i => (Y.out.alloc (.cells #[.int .i64 x.f0, .int .u64 x.f1, .int .u64 x.f2, .int .u64 x.f3, .int .u64 x.f4, .slice D5x x.f5.length g5x, .slice D6x x.f6.length g6x, .slice D7x x.f7.length g7x, .slice D8x x.f8.length g8x] 53)).cell i; clear hh hb))
    (try clear hxa hya)
    have hal := below_alloc (Below.refl W3.heap.size W3) (.cells #[.int .i64 x.f0, .int .u64 x.f1, .int .u64 x.f2, .int .u64 x.f3, .int .u64 x.f4, .slice D5x x.f5.length g5x, .slice D6x x.f6.length g6x, .slice D7x x.f7.length g7x, .slice D8x x.f8.length g8x] 53)
    replace B := Aside0.mk (below_then B.out B.out.size hal)
    replace HA := Aside0.mk (HA.out.below hal)
    replace HB := Aside0.mk (HB.out.below hal)
    replace HX := Aside0.mk (HX.out.below hal)
    replace X := Aside0.mk (X.out.alloc (.cells #[.int .i64 x.f0, .int .u64 x.f1, .int .u64 x.f2, .int .u64 x.f3, .int .u64 x.f4, .slice D5x x.f5.length g5x, .slice D6x x.f6.length g6x, .slice D7x x.f7.length g7x, .slice D8x x.f8.length g8x] 53)); replace hx := fun i => X.out.cell i
    replace Y := Aside0.mk (Y.out.alloc (.cells #[.int .i64 x.f0, .int .u64 x.f1, .int .u64 x.f2, .int .u64 x.f3, .int .u64 x.f4, .slice D5x x.f5.length g5x, .slice D6x x.f6.length g6x, .slice D7x x.f7.length g7x, .slice D8x x.f8.length g8x] 53)); replace hy := fun i => Y.out.cell i
    have P := Aside0.mk (Blk.new W3 #[.int .i64 x.f0, .int .u64 x.f1, .int .u64 x.f2, .int .u64 x.f3, .int .u64 x.f4, .slice D5x x.f5.length g5x, .slice D6x x.f6.length g6x, .slice D7x x.f7.length g7x, .slice D8x x.f8.length g8x] 53); have hp := fun i => P.out.cell i; clear hal
    go_wp2_with (first | (go_at_call 25; (with_reducible refine (F2.out _ _ HB.out).mono ?_); rintro e W4 ⟨D5y, g5y, D6y, g6y, D7y, g7y, D8y, g8y, rfl, hh, hb⟩; replace B := Aside0.mk (below_then B.out B.out.size hb); replace HA := Aside0.mk (HA.out.below hb); replace HB := Aside0.mk (HB.out.below hb); replace HX := Aside0.mk (HX.out.below hb); replace X := Aside0.mk (X.out.below hb); replace hx := fun i => X.out.cell i; replace Y := Aside0.mk (Y.out.below hb); replace hy := fun i => Y.out.cell i; replace P := Aside0.mk (P.out.below hb); replace hp := fun i => P.out.cell i; have HY := Aside0.mk hh; have hxa := fun i => (X.out.alloc (.cells #[.int .i64 y.f0, .int .u64 y.f1, .int .u64 y.f2, .int .u64 y.f3, .int .u64 y.f4, .slice D5y y.f5.length g5y, .slice D6y y.f6.length g6y, .slice D7y y.f7.length g7y, .slice D8y y.f8.length g8y] 53)).cell i; have hya := fun i => (Y.out.alloc (.cells #[.int .i64 y.f0, .int .u64 y.f1, .int .u64 y.f2, .int .u64 y.f3, .int .u64 y.f4, .slice D5y y.f5.length g5y, .slice D6y y.f6.length g6y, .slice D7y y.f7.length g7y, .slice D8y y.f8.length g8y] 53)).cell i; have hpa := fun i => (P.out.alloc (.cells #[.int .i64 y.f0, .int .u64 y.f1, .int .u64 y.f2, .int .u64 y.f3, .int .u64 y.f4, .slice D5y y.f5.length g5y, .slice D6y y.f6.length g6y, .slice D7y y.f7.length g7y, .slice D8y y.f8.length g8y] 53)).cell i; clear hh hb))
    (try clear hxa hya hpa)
    have hal := below_alloc (Below.refl W4.heap.size W4) (.cells #[.int .i64 y.f0, .int .u64 y.f1, .int .u64 y.f2, .int .u64 y.f3, .int .u64 y.f4, .slice D5y y.f5.length g5y, .slice D6y y.f6.length g6y, .slice D7y y.f7.length g7y, .slice D8y y.f8.length g8y] 53)
    replace B := Aside0.mk (below_then B.out B.out.size hal)
    replace HA := Aside0.mk (HA.out.below hal)
    replace HB := Aside0.mk (HB.out.below hal)
    replace HX := Aside0.mk (HX.out.below hal)
    replace HY := Aside0.mk (HY.out.below hal)
    replace X := Aside0.mk (X.out.alloc (.cells #[.int .i64 y.f0, .int .u64 y.f1, .int .u64 y.f2, .int .u64 y.f3, .int .u64 y.f4, .slice D5y y.f5.length g5y, .slice D6y y.f6.length g6y, .slice D7y y.f7.length g7y, .slice D8y y.f8.length g8y] 53)); replace hx := fun i => X.out.cell i
    replace Y := Aside0.mk (Y.out.alloc (.cells #[.int .i64 y.f0, .int .u64 y.f1, .int .u64 y.f2, .int .u64 y.f3, .int .u64 y.f4, .slice D5y y.f5.length g5y, .slice D6y y.f6.length g6y, .slice D7y y.f7.length g7y, .slice D8y y.f8.length g8y] 53)); replace hy := fun i => Y.out.cell i
    replace P := Aside0.mk (P.out.alloc (.cells #[.int .i64 y.f0, .int .u64 y.f1, .int .u64 y.f2, .int .u64 y.f3, .int .u64 y.f4, .slice D5y y.f5.length g5y, .slice D6y y.f6.length g6y, .slice D7y y.f7.length g7y, .slice D8y y.f8.length g8y] 53)); replace hp := fun i => P.out.cell i
    have Q := Aside0.mk (Blk.new W4 #[.int .i64 y.f0, .int .u64 y.f1, .int .u64 y.f2, .int .u64 y.f3, .int .u64 y.f4, .slice D5y y.f5.length g5y, .slice D6y y.f6.length g6y, .slice D7y y.f7.length g7y, .slice D8y y.f8.length g8y] 53); have hq := fun i => Q.out.cell i; clear hal
    go_wp2_with (first | (go_at_call 26; (with_reducible refine (K1.out _ _ _ HA.out HB.out).mono ?_); rintro e W5 ⟨rfl, hb⟩; replace B := Aside0.mk (below_then B.out B.out.size hb); replace HA := Aside0.mk (HA.out.below hb); replace HB := Aside0.mk (HB.out.below hb); replace HX := Aside0.mk (HX.out.below hb); replace HY := Aside0.mk (HY.out.below hb); replace X := Aside0.mk (X.out.below hb); replace hx := fun i => X.out.cell i; replace Y := Aside0.mk (Y.out.below hb); replace hy := fun i => Y.out.cell i; replace P := Aside0.mk (P.out.below hb); replace hp := fun i => P.out.cell i; replace Q := Aside0.mk (Q.out.below hb); replace hq := fun i => Q.out.cell i; have hxa := fun i => (X.out.alloc (.cells #[.int .i64 v1, .int .i64 v2] 57)).cell i; have hya := fun i => (Y.out.alloc (.cells #[.int .i64 v1, .int .i64 v2] 57)).cell i; have hpa := fun i => (P.out.alloc (.cells #[.int .i64 v1, .int .i64 v2] 57)).cell i; have hqa := fun i => (Q.out.alloc (.cells #[.int .i64 v1, .int .i64 v2] 57)).cell i; clear  hb))
    (try clear hxa hya hpa hqa)
    have hal := below_alloc (Below.refl W5.heap.size W5) (.cells #[.int .i64 v1, .int .i64 v2] 57)
    replace B := Aside0.mk (below_then B.out B.out.size hal)
    replace HA := Aside0.mk (HA.out.below hal)
    replace HB := Aside0.mk (HB.out.below hal)
    replace HX := Aside0.mk (HX.out.below hal)
    replace HY := Aside0.mk (HY.out.below hal)
    replace X := Aside0.mk (X.out.alloc (.cells #[.int .i64 v1, .int .i64 v2] 57)); replace hx := fun i => X.out.cell i
    replace Y := Aside0.mk (Y.out.alloc (.cells #[.int .i64 v1, .int .i64 v2] 57)); replace hy := fun i => Y.out.cell i
    replace P := Aside0.mk (P.out.alloc (.cells #[.int .i64 v1, .int .i64 v2] 57)); replace hp := fun i => P.out.cell i
    replace Q := Aside0.mk (Q.out.alloc (.cells #[.int .i64 v1, .int .i64 v2] 57)); replace hq := fun i => Q.out.cell i
    have U := Aside0.mk (Blk.new W5 #[.int .i64 v1, .int .i64 v2] 57); have hu := fun i => U.out.cell i; clear hal
    go_wp2_with (first | (go_at_call 24; (with_reducible refine (awake11_c _).mono ?_); rintro e W6 ⟨rfl, hb⟩; replace B := Aside0.mk (below_then B.out B.out.size hb); replace HA := Aside0.mk (HA.out.below hb); replace HB := Aside0.mk (HB.out.below hb); replace HX := Aside0.mk (HX.out.below hb); replace HY := Aside0.mk (HY.out.below hb); replace X := Aside0.mk (X.out.below hb); replace hx := fun i => X.out.cell i; replace Y := Aside0.mk (Y.out.below hb); replace hy := fun i => Y.out.cell i; replace P := Aside0.mk (P.out.below hb); replace hp := fun i => P.out.cell i; replace Q := Aside0.mk (Q.out.below hb); replace hq := fun i => Q.out.cell i; replace U := Aside0.mk (U.out.below hb); replace hu := fun i => U.out.cell i; clear  hb))
    go_ret
    exact ⟨rfl, B.out⟩
  by_cases c2 : f = 0
  rotate_left
  · have ki : (intsR a b).2 ≠ 0 := by
      unfold intsR
      rw [if_neg (by simp; omega), if_pos (by omega)]
      simp only
      omega
    generalize intsR a b = r1 at *
    obtain ⟨⟨v1, v2⟩, g⟩ := r1
    simp only at k1 ki
    have K1 := Aside0.mk k1
    have d0 : (e != 0) = false := by rw [c1]; rfl
    have d1 : (f != 0) = true := bne_iff_ne.2 c2
    have d2 : (g != 0) = true := bne_iff_ne.2 ki
    clear c1 c2 ki k1 he hf hx hy n5 n6 n7 n8 m5 m6 m7 m8 hb1 hb2 hwa hwb hWa hWb hA3 hB3
    obtain ⟨A5a, c5a, A6a, c6a, A7a, c7a, A8a, c8a, e, -⟩ := hua.open_
    subst e
    obtain ⟨A5b, c5b, A6b, c6b, A7b, c7b, A8b, c8b, e, -⟩ := hub.open_
    subst e
    have B := Aside0.mk (below_alloc (below_alloc (Below.refl w.heap.size w) (.cells #[.int .i64 a.f0, .int .u64 a.f1, .int .u64 a.f2, .int .u64 a.f3, .int .u64 a.f4, .slice A5a a.f5.length c5a, .slice A6a a.f6.length c6a, .slice A7a a.f7.length c7a, .slice A8a a.f8.length c8a] 26)) (.cells #[.int .i64 b.f0, .int .u64 b.f1, .int .u64 b.f2, .int .u64 b.f3, .int .u64 b.f4, .slice A5b b.f5.length c5b, .slice A6b b.f6.length c6b, .slice A7b b.f7.length c7b, .slice A8b b.f8.length c8b] 26))
    have X := Aside0.mk ((Blk.new w #[.int .i64 a.f0, .int .u64 a.f1, .int .u64 a.f2, .int .u64 a.f3, .int .u64 a.f4, .slice A5a a.f5.length c5a, .slice A6a a.f6.length c6a, .slice A7a a.f7.length c7a, .slice A8a a.f8.length c8a] 26).alloc (.cells #[.int .i64 b.f0, .int .u64 b.f1, .int .u64 b.f2, .int .u64 b.f3, .int .u64 b.f4, .slice A5b b.f5.length c5b, .slice A6b b.f6.length c6b, .slice A7b b.f7.length c7b, .slice A8b b.f8.length c8b] 26))
    have hx := fun i => X.out.cell i
    have Y := Aside0.mk (show Blk ((w.alloc (.cells #[.int .i64 a.f0, .int .u64 a.f1, .int .u64 a.f2, .int .u64 a.f3, .int .u64 a.f4, .slice A5a a.f5.length c5a, .slice A6a a.f6.length c6a, .slice A7a a.f7.length c7a, .slice A8a a.f8.length c8a] 26)).alloc (.cells #[.int .i64 b.f0, .int .u64 b.f1, .int .u64 b.f2, .int .u64 b.f3, .int .u64 b.f4, .slice A5b b.f5.length c5b, .slice A6b b.f6.length c6b, .slice A7b b.f7.length c7b, .slice A8b b.f8.length c8b] 26)) (w.heap.size + 1) #[.int .i64 b.f0, .int .u64 b.f1, .int .u64 b.f2, .int .u64 b.f3, .int .u64 b.f4, .slice A5b b.f5.length c5b, .slice A6b b.f6.length c6b, .slice A7b b.f7.length c7b, .slice A8b b.f8.length c8b] 26 by have := Blk.new (w.alloc (.cells #[.int .i64 a.f0, .int .u64 a.f1, .int .u64 a.f2, .int .u64 a.f3, .int .u64 a.f4, .slice A5a a.f5.length c5a, .slice A6a a.f6.length c6a, .slice A7a a.f7.length c7a, .slice A8a a.f8.length c8a] 26)) #[.int .i64 b.f0, .int .u64 b.f1, .int .u64 b.f2, .int .u64 b.f3, .int .u64 b.f4, .slice A5b b.f5.length c5b, .slice A6b b.f6.length c6b, .slice A7b b.f7.length c7b, .slice A8b b.f8.length c8b] 26; simpa using this)
    have hy := fun i => Y.out.cell i
    have HA := Aside0.mk (hua.below B.out)
    have HB := Aside0.mk (hub.below B.out)
    clear hua hub
    go_enter Try.func5, Try.ntmps5
    go_wp2_with (first | (go_at_call 23; (with_reducible refine (CS.out _ _ HA.out).mono ?_); rintro e W1 ⟨rfl, hb⟩; replace B := Aside0.mk (below_then B.out B.out.size hb); replace HA := Aside0.mk (HA.out.below hb); replace HB := Aside0.mk (HB.out.below hb); replace X := Aside0.mk (X.out.below hb); replace hx := fun i => X.out.cell i; replace Y := Aside0.mk (Y.out.below hb); replace hy := fun i => Y.out.cell i; clear  hb) | (go_at_call 23; (with_reducible refine (CT.out _ _ HB.out).mono ?_); rintro e W2 ⟨rfl, hb⟩; replace B := Aside0.mk (below_then B.out B.out.size hb); replace HA := Aside0.mk (HA.out.below hb); replace HB := Aside0.mk (HB.out.below hb); replace X := Aside0.mk (X.out.below hb); replace hx := fun i => X.out.cell i; replace Y := Aside0.mk (Y.out.below hb); replace hy := fun i => Y.out.cell i; clear  hb) | (go_at_call 25; (with_reducible refine (F1.out _ _ HA.out).mono ?_); rintro e W3 ⟨D5x, g5x, D6x, g6x, D7x, g7x, D8x, g8x, rfl, hh, hb⟩; replace B := Aside0.mk (below_then B.out B.out.size hb); replace HA := Aside0.mk (HA.out.below hb); replace HB := Aside0.mk (HB.out.below hb); replace X := Aside0.mk (X.out.below hb); replace hx := fun i => X.out.cell i; replace Y := Aside0.mk (Y.out.below hb); replace hy := fun i => Y.out.cell i; have HX := Aside0.mk hh; have hxa := fun i => (X.out.alloc (.cells #[.int .i64 x.f0, .int .u64 x.f1, .int .u64 x.f2, .int .u64 x.f3, .int .u64 x.f4, .slice D5x x.f5.length g5x, .slice D6x x.f6.length g6x, .slice D7x x.f7.length g7x, .slice D8x x.f8.length g8x] 53)).cell i; have hya := fun i => (Y.out.alloc (.cells #[.int .i64 x.f0, .int .u64 x.f1, .int .u64 x.f2, .int .u64 x.f3, .int .u64 x.f4, .slice D5x x.f5.length g5x, .slice D6x x.f6.length g6x, .slice D7x x.f7.length g7x, .slice D8x x.f8.length g8x] 53)).cell i; clear hh hb))
    (try clear hxa hya)
    have hal := below_alloc (Below.refl W3.heap.size W3) (.cells #[.int .i64 x.f0, .int .u64 x.f1, .int .u64 x.f2, .int .u64 x.f3, .int .u64 x.f4, .slice D5x x.f5.length g5x, .slice D6x x.f6.length g6x, .slice D7x x.f7.length g7x, .slice D8x x.f8.length g8x] 53)
    replace B := Aside0.mk (below_then B.out B.out.size hal)
    replace HA := Aside0.mk (HA.out.below hal)
    replace HB := Aside0.mk (HB.out.below hal)
    replace HX := Aside0.mk (HX.out.below hal)
    replace X := Aside0.mk (X.out.alloc (.cells #[.int .i64 x.f0, .int .u64 x.f1, .int .u64 x.f2, .int .u64 x.f3, .int .u64 x.f4, .slice D5x x.f5.length g5x, .slice D6x x.f6.length g6x, .slice D7x x.f7.length g7x, .slice D8x x.f8.length g8x] 53)); replace hx := fun i => X.out.cell i
    replace Y := Aside0.mk (Y.out.alloc (.cells #[.int .i64 x.f0, .int .u64 x.f1, .int .u64 x.f2, .int .u64 x.f3, .int .u64 x.f4, .slice D5x x.f5.length g5x, .slice D6x x.f6.length g6x, .slice D7x x.f7.length g7x, .slice D8x x.f8.length g8x] 53)); replace hy := fun i => Y.out.cell i
    have P := Aside0.mk (Blk.new W3 #[.int .i64 x.f0, .int .u64 x.f1, .int .u64 x.f2, .int .u64 x.f3, .int .u64 x.f4, .slice D5x x.f5.length g5x, .slice D6x x.f6.length g6x, .slice D7x x.f7.length g7x, .slice D8x x.f8.length g8x] 53); have hp := fun i => P.out.cell i; clear hal
    go_wp2_with (first | (go_at_call 25; (with_reducible refine (F2.out _ _ HB.out).mono ?_); rintro e W4 ⟨D5y, g5y, D6y, g6y, D7y, g7y, D8y, g8y, rfl, hh, hb⟩; replace B := Aside0.mk (below_then B.out B.out.size hb); replace HA := Aside0.mk (HA.out.below hb); replace HB := Aside0.mk (HB.out.below hb); replace HX := Aside0.mk (HX.out.below hb); replace X := Aside0.mk (X.out.below hb); replace hx := fun i => X.out.cell i; replace Y := Aside0.mk (Y.out.below hb); replace hy := fun i => Y.out.cell i; replace P := Aside0.mk (P.out.below hb); replace hp := fun i => P.out.cell i; have HY := Aside0.mk hh; have hxa := fun i => (X.out.alloc (.cells #[.int .i64 y.f0, .int .u64 y.f1, .int .u64 y.f2, .int .u64 y.f3, .int .u64 y.f4, .slice D5y y.f5.length g5y, .slice D6y y.f6.length g6y, .slice D7y y.f7.length g7y, .slice D8y y.f8.length g8y] 53)).cell i; have hya := fun i => (Y.out.alloc (.cells #[.int .i64 y.f0, .int .u64 y.f1, .int .u64 y.f2, .int .u64 y.f3, .int .u64 y.f4, .slice D5y y.f5.length g5y, .slice D6y y.f6.length g6y, .slice D7y y.f7.length g7y, .slice D8y y.f8.length g8y] 53)).cell i; have hpa := fun i => (P.out.alloc (.cells #[.int .i64 y.f0, .int .u64 y.f1, .int .u64 y.f2, .int .u64 y.f3, .int .u64 y.f4, .slice D5y y.f5.length g5y, .slice D6y y.f6.length g6y, .slice D7y y.f7.length g7y, .slice D8y y.f8.length g8y] 53)).cell i; clear hh hb))
    (try clear hxa hya hpa)
    have hal := below_alloc (Below.refl W4.heap.size W4) (.cells #[.int .i64 y.f0, .int .u64 y.f1, .int .u64 y.f2, .int .u64 y.f3, .int .u64 y.f4, .slice D5y y.f5.length g5y, .slice D6y y.f6.length g6y, .slice D7y y.f7.length g7y, .slice D8y y.f8.length g8y] 53)
    replace B := Aside0.mk (below_then B.out B.out.size hal)
    replace HA := Aside0.mk (HA.out.below hal)
    replace HB := Aside0.mk (HB.out.below hal)
    replace HX := Aside0.mk (HX.out.below hal)
    replace HY := Aside0.mk (HY.out.below hal)
    replace X := Aside0.mk (X.out.alloc (.cells #[.int .i64 y.f0, .int .u64 y.f1, .int .u64 y.f2, .int .u64 y.f3, .int .u64 y.f4, .slice D5y y.f5.length g5y, .slice D6y y.f6.length g6y, .slice D7y y.f7.length g7y, .slice D8y y.f8.length g8y] 53)); replace hx := fun i => X.out.cell i
    replace Y := Aside0.mk (Y.out.alloc (.cells #[.int .i64 y.f0, .int .u64 y.f1, .int .u64 y.f2, .int .u64 y.f3, .int .u64 y.f4, .slice D5y y.f5.length g5y, .slice D6y y.f6.length g6y, .slice D7y y.f7.length g7y, .slice D8y y.f8.length g8y] 53)); replace hy := fun i => Y.out.cell i
    replace P := Aside0.mk (P.out.alloc (.cells #[.int .i64 y.f0, .int .u64 y.f1, .int .u64 y.f2, .int .u64 y.f3, .int .u64 y.f4, .slice D5y y.f5.length g5y, .slice D6y y.f6.length g6y, .slice D7y y.f7.length g7y, .slice D8y y.f8.length g8y] 53)); replace hp := fun i => P.out.cell i
    have Q := Aside0.mk (Blk.new W4 #[.int .i64 y.f0, .int .u64 y.f1, .int .u64 y.f2, .int .u64 y.f3, .int .u64 y.f4, .slice D5y y.f5.length g5y, .slice D6y y.f6.length g6y, .slice D7y y.f7.length g7y, .slice D8y y.f8.length g8y] 53); have hq := fun i => Q.out.cell i; clear hal
    go_wp2_with (first | (go_at_call 26; (with_reducible refine (K1.out _ _ _ HA.out HB.out).mono ?_); rintro e W5 ⟨rfl, hb⟩; replace B := Aside0.mk (below_then B.out B.out.size hb); replace HA := Aside0.mk (HA.out.below hb); replace HB := Aside0.mk (HB.out.below hb); replace HX := Aside0.mk (HX.out.below hb); replace HY := Aside0.mk (HY.out.below hb); replace X := Aside0.mk (X.out.below hb); replace hx := fun i => X.out.cell i; replace Y := Aside0.mk (Y.out.below hb); replace hy := fun i => Y.out.cell i; replace P := Aside0.mk (P.out.below hb); replace hp := fun i => P.out.cell i; replace Q := Aside0.mk (Q.out.below hb); replace hq := fun i => Q.out.cell i; have hxa := fun i => (X.out.alloc (.cells #[.int .i64 v1, .int .i64 v2] 57)).cell i; have hya := fun i => (Y.out.alloc (.cells #[.int .i64 v1, .int .i64 v2] 57)).cell i; have hpa := fun i => (P.out.alloc (.cells #[.int .i64 v1, .int .i64 v2] 57)).cell i; have hqa := fun i => (Q.out.alloc (.cells #[.int .i64 v1, .int .i64 v2] 57)).cell i; clear  hb))
    (try clear hxa hya hpa hqa)
    have hal := below_alloc (Below.refl W5.heap.size W5) (.cells #[.int .i64 v1, .int .i64 v2] 57)
    replace B := Aside0.mk (below_then B.out B.out.size hal)
    replace HA := Aside0.mk (HA.out.below hal)
    replace HB := Aside0.mk (HB.out.below hal)
    replace HX := Aside0.mk (HX.out.below hal)
    replace HY := Aside0.mk (HY.out.below hal)
    replace X := Aside0.mk (X.out.alloc (.cells #[.int .i64 v1, .int .i64 v2] 57)); replace hx := fun i => X.out.cell i
    replace Y := Aside0.mk (Y.out.alloc (.cells #[.int .i64 v1, .int .i64 v2] 57)); replace hy := fun i => Y.out.cell i
    replace P := Aside0.mk (P.out.alloc (.cells #[.int .i64 v1, .int .i64 v2] 57)); replace hp := fun i => P.out.cell i
    replace Q := Aside0.mk (Q.out.alloc (.cells #[.int .i64 v1, .int .i64 v2] 57)); replace hq := fun i => Q.out.cell i
    have U := Aside0.mk (Blk.new W5 #[.int .i64 v1, .int .i64 v2] 57); have hu := fun i => U.out.cell i; clear hal
    go_wp2_with (first | (go_at_call 24; (with_reducible refine (awake11_c _).mono ?_); rintro e W6 ⟨rfl, hb⟩; replace B := Aside0.mk (below_then B.out B.out.size hb); replace HA := Aside0.mk (HA.out.below hb); replace HB := Aside0.mk (HB.out.below hb); replace HX := Aside0.mk (HX.out.below hb); replace HY := Aside0.mk (HY.out.below hb); replace X := Aside0.mk (X.out.below hb); replace hx := fun i => X.out.cell i; replace Y := Aside0.mk (Y.out.below hb); replace hy := fun i => Y.out.cell i; replace P := Aside0.mk (P.out.below hb); replace hp := fun i => P.out.cell i; replace Q := Aside0.mk (Q.out.below hb); replace hq := fun i => Q.out.cell i; replace U := Aside0.mk (U.out.below hb); replace hu := fun i => U.out.cell i; clear  hb))
    go_ret
    exact ⟨rfl, B.out⟩
  have ca : checkR a = 0 := by omega
  have cb : checkR b = 0 := by omega
  have ex : x = fromF a := by
    unfold fromR at hx
    rw [if_neg (by simp [ca])] at hx; injection hx with h _; exact h.symm
  have ey : y = fromF b := by
    unfold fromR at hy
    rw [if_neg (by simp [cb])] at hy; injection hy with h _; exact h.symm
  have oa := from_open hWa ca
  have ob := from_open hWb cb
  have hbp := both_plain hWa hWb ca cb
  have k2 := resetF_c (fromF a) (fromF b) oa.2.2.1 ob.2.2.1
  unfold intsR at k1
  rw [if_neg (by simp [ca]), if_neg (by simp [cb])] at k1
  unfold floatsR at k2
  rw [if_neg (by simp [oa.1]), if_neg (by simp [ob.1]), ← ex, ← ey] at k2
  rw [← ex, ← ey] at hbp
  generalize intsV a b = r1 at *
  generalize floatsV x y = r2 at *
  obtain ⟨v1, v2⟩ := r1
  obtain ⟨z1, z2⟩ := r2
  simp only at k1 k2 hbp
  have K1 := Aside0.mk k1
  have K2 := Aside0.mk k2
  obtain ⟨h1, h2⟩ := hbp
  subst c1
  subst c2
  have dz : v1 = 0 → (z1 != 0) = false := fun h => by rw [h1 h]; rfl
  clear ca cb ex ey oa ob k1 k2 he hf hx hy n5 n6 n7 n8 m5 m6 m7 m8 hb1 hb2 hwa hwb hWa hWb h1
  by_cases c3 : a.f3 ≤ 9007199254740992
  · have d3 : decide (9007199254740992 < a.f3) = false := decide_eq_false (by omega)
    have e2 := h2 c3
    injection e2 with e21 e22
    subst e21
    subst e22
    have d5 : (z1 == z1) = true := beq_self_eq_true _
    have d6 : (z2 == z2) = true := beq_self_eq_true _
    clear h2 c3
    by_cases c5 : z1 = 0
    · have d7 : (z1 == 0) = true := beq_iff_eq.2 c5
      have d8 := dz c5
      clear c5 dz
      by_cases c4 : b.f3 ≤ 9007199254740992
      · have d4 : decide (9007199254740992 < b.f3) = false := decide_eq_false (by omega)
        clear c4 hA3 hB3
        obtain ⟨A5a, c5a, A6a, c6a, A7a, c7a, A8a, c8a, e, -⟩ := hua.open_
        subst e
        obtain ⟨A5b, c5b, A6b, c6b, A7b, c7b, A8b, c8b, e, -⟩ := hub.open_
        subst e
        have B := Aside0.mk (below_alloc (below_alloc (Below.refl w.heap.size w) (.cells #[.int .i64 a.f0, .int .u64 a.f1, .int .u64 a.f2, .int .u64 a.f3, .int .u64 a.f4, .slice A5a a.f5.length c5a, .slice A6a a.f6.length c6a, .slice A7a a.f7.length c7a, .slice A8a a.f8.length c8a] 26)) (.cells #[.int .i64 b.f0, .int .u64 b.f1, .int .u64 b.f2, .int .u64 b.f3, .int .u64 b.f4, .slice A5b b.f5.length c5b, .slice A6b b.f6.length c6b, .slice A7b b.f7.length c7b, .slice A8b b.f8.length c8b] 26))
        have X := Aside0.mk ((Blk.new w #[.int .i64 a.f0, .int .u64 a.f1, .int .u64 a.f2, .int .u64 a.f3, .int .u64 a.f4, .slice A5a a.f5.length c5a, .slice A6a a.f6.length c6a, .slice A7a a.f7.length c7a, .slice A8a a.f8.length c8a] 26).alloc (.cells #[.int .i64 b.f0, .int .u64 b.f1, .int .u64 b.f2, .int .u64 b.f3, .int .u64 b.f4, .slice A5b b.f5.length c5b, .slice A6b b.f6.length c6b, .slice A7b b.f7.length c7b, .slice A8b b.f8.length c8b] 26))
        have hx := fun i => X.out.cell i
        have Y := Aside0.mk (show Blk ((w.alloc (.cells #[.int .i64 a.f0, .int .u64 a.f1, .int .u64 a.f2, .int .u64 a.f3, .int .u64 a.f4, .slice A5a a.f5.length c5a, .slice A6a a.f6.length c6a, .slice A7a a.f7.length c7a, .slice A8a a.f8.length c8a] 26)).alloc (.cells #[.int .i64 b.f0, .int .u64 b.f1, .int .u64 b.f2, .int .u64 b.f3, .int .u64 b.f4, .slice A5b b.f5.length c5b, .slice A6b b.f6.length c6b, .slice A7b b.f7.length c7b, .slice A8b b.f8.length c8b] 26)) (w.heap.size + 1) #[.int .i64 b.f0, .int .u64 b.f1, .int .u64 b.f2, .int .u64 b.f3, .int .u64 b.f4, .slice A5b b.f5.length c5b, .slice A6b b.f6.length c6b, .slice A7b b.f7.length c7b, .slice A8b b.f8.length c8b] 26 by have := Blk.new (w.alloc (.cells #[.int .i64 a.f0, .int .u64 a.f1, .int .u64 a.f2, .int .u64 a.f3, .int .u64 a.f4, .slice A5a a.f5.length c5a, .slice A6a a.f6.length c6a, .slice A7a a.f7.length c7a, .slice A8a a.f8.length c8a] 26)) #[.int .i64 b.f0, .int .u64 b.f1, .int .u64 b.f2, .int .u64 b.f3, .int .u64 b.f4, .slice A5b b.f5.length c5b, .slice A6b b.f6.length c6b, .slice A7b b.f7.length c7b, .slice A8b b.f8.length c8b] 26; simpa using this)
        have hy := fun i => Y.out.cell i
        have HA := Aside0.mk (hua.below B.out)
        have HB := Aside0.mk (hub.below B.out)
        clear hua hub
        go_enter Try.func5, Try.ntmps5
        go_wp2_with (first | (go_at_call 23; (with_reducible refine (CS.out _ _ HA.out).mono ?_); rintro e W1 ⟨rfl, hb⟩; replace B := Aside0.mk (below_then B.out B.out.size hb); replace HA := Aside0.mk (HA.out.below hb); replace HB := Aside0.mk (HB.out.below hb); replace X := Aside0.mk (X.out.below hb); replace hx := fun i => X.out.cell i; replace Y := Aside0.mk (Y.out.below hb); replace hy := fun i => Y.out.cell i; clear  hb) | (go_at_call 23; (with_reducible refine (CT.out _ _ HB.out).mono ?_); rintro e W2 ⟨rfl, hb⟩; replace B := Aside0.mk (below_then B.out B.out.size hb); replace HA := Aside0.mk (HA.out.below hb); replace HB := Aside0.mk (HB.out.below hb); replace X := Aside0.mk (X.out.below hb); replace hx := fun i => X.out.cell i; replace Y := Aside0.mk (Y.out.below hb); replace hy := fun i => Y.out.cell i; clear  hb) | (go_at_call 25; (with_reducible refine (F1.out _ _ HA.out).mono ?_); rintro e W3 ⟨D5x, g5x, D6x, g6x, D7x, g7x, D8x, g8x, rfl, hh, hb⟩; replace B := Aside0.mk (below_then B.out B.out.size hb); replace HA := Aside0.mk (HA.out.below hb); replace HB := Aside0.mk (HB.out.below hb); replace X := Aside0.mk (X.out.below hb); replace hx := fun i => X.out.cell i; replace Y := Aside0.mk (Y.out.below hb); replace hy := fun i => Y.out.cell i; have HX := Aside0.mk hh; have hxa := fun i => (X.out.alloc (.cells #[.int .i64 x.f0, .int .u64 x.f1, .int .u64 x.f2, .int .u64 x.f3, .int .u64 x.f4, .slice D5x x.f5.length g5x, .slice D6x x.f6.length g6x, .slice D7x x.f7.length g7x, .slice D8x x.f8.length g8x] 53)).cell i; have hya := fun i => (Y.out.alloc (.cells #[.int .i64 x.f0, .int .u64 x.f1, .int .u64 x.f2, .int .u64 x.f3, .int .u64 x.f4, .slice D5x x.f5.length g5x, .slice D6x x.f6.length g6x, .slice D7x x.f7.length g7x, .slice D8x x.f8.length g8x] 53)).cell i; clear hh hb))
        (try clear hxa hya)
        have hal := below_alloc (Below.refl W3.heap.size W3) (.cells #[.int .i64 x.f0, .int .u64 x.f1, .int .u64 x.f2, .int .u64 x.f3, .int .u64 x.f4, .slice D5x x.f5.length g5x, .slice D6x x.f6.length g6x, .slice D7x x.f7.length g7x, .slice D8x x.f8.length g8x] 53)
        replace B := Aside0.mk (below_then B.out B.out.size hal)
        replace HA := Aside0.mk (HA.out.below hal)
        replace HB := Aside0.mk (HB.out.below hal)
        replace HX := Aside0.mk (HX.out.below hal)
        replace X := Aside0.mk (X.out.alloc (.cells #[.int .i64 x.f0, .int .u64 x.f1, .int .u64 x.f2, .int .u64 x.f3, .int .u64 x.f4, .slice D5x x.f5.length g5x, .slice D6x x.f6.length g6x, .slice D7x x.f7.length g7x, .slice D8x x.f8.length g8x] 53)); replace hx := fun i => X.out.cell i
        replace Y := Aside0.mk (Y.out.alloc (.cells #[.int .i64 x.f0, .int .u64 x.f1, .int .u64 x.f2, .int .u64 x.f3, .int .u64 x.f4, .slice D5x x.f5.length g5x, .slice D6x x.f6.length g6x, .slice D7x x.f7.length g7x, .slice D8x x.f8.length g8x] 53)); replace hy := fun i => Y.out.cell i
        have P := Aside0.mk (Blk.new W3 #[.int .i64 x.f0, .int .u64 x.f1, .int .u64 x.f2, .int .u64 x.f3, .int .u64 x.f4, .slice D5x x.f5.length g5x, .slice D6x x.f6.length g6x, .slice D7x x.f7.length g7x, .slice D8x x.f8.length g8x] 53); have hp := fun i => P.out.cell i; clear hal
        go_wp2_with (first | (go_at_call 25; (with_reducible refine (F2.out _ _ HB.out).mono ?_); rintro e W4 ⟨D5y, g5y, D6y, g6y, D7y, g7y, D8y, g8y, rfl, hh, hb⟩; replace B := Aside0.mk (below_then B.out B.out.size hb); replace HA := Aside0.mk (HA.out.below hb); replace HB := Aside0.mk (HB.out.below hb); replace HX := Aside0.mk (HX.out.below hb); replace X := Aside0.mk (X.out.below hb); replace hx := fun i => X.out.cell i; replace Y := Aside0.mk (Y.out.below hb); replace hy := fun i => Y.out.cell i; replace P := Aside0.mk (P.out.below hb); replace hp := fun i => P.out.cell i; have HY := Aside0.mk hh; have hxa := fun i => (X.out.alloc (.cells #[.int .i64 y.f0, .int .u64 y.f1, .int .u64 y.f2, .int .u64 y.f3, .int .u64 y.f4, .slice D5y y.f5.length g5y, .slice D6y y.f6.length g6y, .slice D7y y.f7.length g7y, .slice D8y y.f8.length g8y] 53)).cell i; have hya := fun i => (Y.out.alloc (.cells #[.int .i64 y.f0, .int .u64 y.f1, .int .u64 y.f2, .int .u64 y.f3, .int .u64 y.f4, .slice D5y y.f5.length g5y, .slice D6y y.f6.length g6y, .slice D7y y.f7.length g7y, .slice D8y y.f8.length g8y] 53)).cell i; have hpa := fun i => (P.out.alloc (.cells #[.int .i64 y.f0, .int .u64 y.f1, .int .u64 y.f2, .int .u64 y.f3, .int .u64 y.f4, .slice D5y y.f5.length g5y, .slice D6y y.f6.length g6y, .slice D7y y.f7.length g7y, .slice D8y y.f8.length g8y] 53)).cell i; clear hh hb))
        (try clear hxa hya hpa)
        have hal := below_alloc (Below.refl W4.heap.size W4) (.cells #[.int .i64 y.f0, .int .u64 y.f1, .int .u64 y.f2, .int .u64 y.f3, .int .u64 y.f4, .slice D5y y.f5.length g5y, .slice D6y y.f6.length g6y, .slice D7y y.f7.length g7y, .slice D8y y.f8.length g8y] 53)
        replace B := Aside0.mk (below_then B.out B.out.size hal)
        replace HA := Aside0.mk (HA.out.below hal)
        replace HB := Aside0.mk (HB.out.below hal)
        replace HX := Aside0.mk (HX.out.below hal)
        replace HY := Aside0.mk (HY.out.below hal)
        replace X := Aside0.mk (X.out.alloc (.cells #[.int .i64 y.f0, .int .u64 y.f1, .int .u64 y.f2, .int .u64 y.f3, .int .u64 y.f4, .slice D5y y.f5.length g5y, .slice D6y y.f6.length g6y, .slice D7y y.f7.length g7y, .slice D8y y.f8.length g8y] 53)); replace hx := fun i => X.out.cell i
        replace Y := Aside0.mk (Y.out.alloc (.cells #[.int .i64 y.f0, .int .u64 y.f1, .int .u64 y.f2, .int .u64 y.f3, .int .u64 y.f4, .slice D5y y.f5.length g5y, .slice D6y y.f6.length g6y, .slice D7y y.f7.length g7y, .slice D8y y.f8.length g8y] 53)); replace hy := fun i => Y.out.cell i
        replace P := Aside0.mk (P.out.alloc (.cells #[.int .i64 y.f0, .int .u64 y.f1, .int .u64 y.f2, .int .u64 y.f3, .int .u64 y.f4, .slice D5y y.f5.length g5y, .slice D6y y.f6.length g6y, .slice D7y y.f7.length g7y, .slice D8y y.f8.length g8y] 53)); replace hp := fun i => P.out.cell i
        have Q := Aside0.mk (Blk.new W4 #[.int .i64 y.f0, .int .u64 y.f1, .int .u64 y.f2, .int .u64 y.f3, .int .u64 y.f4, .slice D5y y.f5.length g5y, .slice D6y y.f6.length g6y, .slice D7y y.f7.length g7y, .slice D8y y.f8.length g8y] 53); have hq := fun i => Q.out.cell i; clear hal
        go_wp2_with (first | (go_at_call 26; (with_reducible refine (K1.out _ _ _ HA.out HB.out).mono ?_); rintro e W5 ⟨rfl, hb⟩; replace B := Aside0.mk (below_then B.out B.out.size hb); replace HA := Aside0.mk (HA.out.below hb); replace HB := Aside0.mk (HB.out.below hb); replace HX := Aside0.mk (HX.out.below hb); replace HY := Aside0.mk (HY.out.below hb); replace X := Aside0.mk (X.out.below hb); replace hx := fun i => X.out.cell i; replace Y := Aside0.mk (Y.out.below hb); replace hy := fun i => Y.out.cell i; replace P := Aside0.mk (P.out.below hb); replace hp := fun i => P.out.cell i; replace Q := Aside0.mk (Q.out.below hb); replace hq := fun i => Q.out.cell i; have hxa := fun i => (X.out.alloc (.cells #[.int .i64 z1, .int .i64 z2] 57)).cell i; have hya := fun i => (Y.out.alloc (.cells #[.int .i64 z1, .int .i64 z2] 57)).cell i; have hpa := fun i => (P.out.alloc (.cells #[.int .i64 z1, .int .i64 z2] 57)).cell i; have hqa := fun i => (Q.out.alloc (.cells #[.int .i64 z1, .int .i64 z2] 57)).cell i; clear  hb))
        (try clear hxa hya hpa hqa)
        have hal := below_alloc (Below.refl W5.heap.size W5) (.cells #[.int .i64 z1, .int .i64 z2] 57)
        replace B := Aside0.mk (below_then B.out B.out.size hal)
        replace HA := Aside0.mk (HA.out.below hal)
        replace HB := Aside0.mk (HB.out.below hal)
        replace HX := Aside0.mk (HX.out.below hal)
        replace HY := Aside0.mk (HY.out.below hal)
        replace X := Aside0.mk (X.out.alloc (.cells #[.int .i64 z1, .int .i64 z2] 57)); replace hx := fun i => X.out.cell i
        replace Y := Aside0.mk (Y.out.alloc (.cells #[.int .i64 z1, .int .i64 z2] 57)); replace hy := fun i => Y.out.cell i
        replace P := Aside0.mk (P.out.alloc (.cells #[.int .i64 z1, .int .i64 z2] 57)); replace hp := fun i => P.out.cell i
        replace Q := Aside0.mk (Q.out.alloc (.cells #[.int .i64 z1, .int .i64 z2] 57)); replace hq := fun i => Q.out.cell i
        have U := Aside0.mk (Blk.new W5 #[.int .i64 z1, .int .i64 z2] 57); have hu := fun i => U.out.cell i; clear hal
        go_wp2_with (first | (go_at_call 27; (with_reducible refine (K2.out _ _ _ HX.out HY.out).mono ?_); rintro e W6 ⟨rfl, hb⟩; replace B := Aside0.mk (below_then B.out B.out.size hb); replace HA := Aside0.mk (HA.out.below hb); replace HB := Aside0.mk (HB.out.below hb); replace HX := Aside0.mk (HX.out.below hb); replace HY := Aside0.mk (HY.out.below hb); replace X := Aside0.mk (X.out.below hb); replace hx := fun i => X.out.cell i; replace Y := Aside0.mk (Y.out.below hb); replace hy := fun i => Y.out.cell i; replace P := Aside0.mk (P.out.below hb); replace hp := fun i => P.out.cell i; replace Q := Aside0.mk (Q.out.below hb); replace hq := fun i => Q.out.cell i; replace U := Aside0.mk (U.out.below hb); replace hu := fun i => U.out.cell i; have hxa := fun i => (X.out.alloc (.cells #[.int .i64 z1, .int .i64 z2] 57)).cell i; have hya := fun i => (Y.out.alloc (.cells #[.int .i64 z1, .int .i64 z2] 57)).cell i; have hpa := fun i => (P.out.alloc (.cells #[.int .i64 z1, .int .i64 z2] 57)).cell i; have hqa := fun i => (Q.out.alloc (.cells #[.int .i64 z1, .int .i64 z2] 57)).cell i; have hua := fun i => (U.out.alloc (.cells #[.int .i64 z1, .int .i64 z2] 57)).cell i; clear  hb))
        (try clear hxa hya hpa hqa hua)
        have hal := below_alloc (Below.refl W6.heap.size W6) (.cells #[.int .i64 z1, .int .i64 z2] 57)
        replace B := Aside0.mk (below_then B.out B.out.size hal)
        replace HA := Aside0.mk (HA.out.below hal)
        replace HB := Aside0.mk (HB.out.below hal)
        replace HX := Aside0.mk (HX.out.below hal)
        replace HY := Aside0.mk (HY.out.below hal)
        replace X := Aside0.mk (X.out.alloc (.cells #[.int .i64 z1, .int .i64 z2] 57)); replace hx := fun i => X.out.cell i
        replace Y := Aside0.mk (Y.out.alloc (.cells #[.int .i64 z1, .int .i64 z2] 57)); replace hy := fun i => Y.out.cell i
        replace P := Aside0.mk (P.out.alloc (.cells #[.int .i64 z1, .int .i64 z2] 57)); replace hp := fun i => P.out.cell i
        replace Q := Aside0.mk (Q.out.alloc (.cells #[.int .i64 z1, .int .i64 z2] 57)); replace hq := fun i => Q.out.cell i
        replace U := Aside0.mk (U.out.alloc (.cells #[.int .i64 z1, .int .i64 z2] 57)); replace hu := fun i => U.out.cell i
        have S := Aside0.mk (Blk.new W6 #[.int .i64 z1, .int .i64 z2] 57); have hs := fun i => S.out.cell i; clear hal
        go_wp2_with (first | (go_at_call 24; (with_reducible refine (awake11_c _).mono ?_); rintro e W7 ⟨rfl, hb⟩; replace B := Aside0.mk (below_then B.out B.out.size hb); replace HA := Aside0.mk (HA.out.below hb); replace HB := Aside0.mk (HB.out.below hb); replace HX := Aside0.mk (HX.out.below hb); replace HY := Aside0.mk (HY.out.below hb); replace X := Aside0.mk (X.out.below hb); replace hx := fun i => X.out.cell i; replace Y := Aside0.mk (Y.out.below hb); replace hy := fun i => Y.out.cell i; replace P := Aside0.mk (P.out.below hb); replace hp := fun i => P.out.cell i; replace Q := Aside0.mk (Q.out.below hb); replace hq := fun i => Q.out.cell i; replace U := Aside0.mk (U.out.below hb); replace hu := fun i => U.out.cell i; replace S := Aside0.mk (S.out.below hb); replace hs := fun i => S.out.cell i; clear  hb))
        go_ret
        exact ⟨rfl, B.out⟩
      · have d4 : decide (9007199254740992 < b.f3) = true := decide_eq_true (by omega)
        clear c4 hA3 hB3
        obtain ⟨A5a, c5a, A6a, c6a, A7a, c7a, A8a, c8a, e, -⟩ := hua.open_
        subst e
        obtain ⟨A5b, c5b, A6b, c6b, A7b, c7b, A8b, c8b, e, -⟩ := hub.open_
        subst e
        have B := Aside0.mk (below_alloc (below_alloc (Below.refl w.heap.size w) (.cells #[.int .i64 a.f0, .int .u64 a.f1, .int .u64 a.f2, .int .u64 a.f3, .int .u64 a.f4, .slice A5a a.f5.length c5a, .slice A6a a.f6.length c6a, .slice A7a a.f7.length c7a, .slice A8a a.f8.length c8a] 26)) (.cells #[.int .i64 b.f0, .int .u64 b.f1, .int .u64 b.f2, .int .u64 b.f3, .int .u64 b.f4, .slice A5b b.f5.length c5b, .slice A6b b.f6.length c6b, .slice A7b b.f7.length c7b, .slice A8b b.f8.length c8b] 26))
        have X := Aside0.mk ((Blk.new w #[.int .i64 a.f0, .int .u64 a.f1, .int .u64 a.f2, .int .u64 a.f3, .int .u64 a.f4, .slice A5a a.f5.length c5a, .slice A6a a.f6.length c6a, .slice A7a a.f7.length c7a, .slice A8a a.f8.length c8a] 26).alloc (.cells #[.int .i64 b.f0, .int .u64 b.f1, .int .u64 b.f2, .int .u64 b.f3, .int .u64 b.f4, .slice A5b b.f5.length c5b, .slice A6b b.f6.length c6b, .slice A7b b.f7.length c7b, .slice A8b b.f8.length c8b] 26))
        have hx := fun i => X.out.cell i
        have Y := Aside0.mk (show Blk ((w.alloc (.cells #[.int .i64 a.f0, .int .u64 a.f1, .int .u64 a.f2, .int .u64 a.f3, .int .u64 a.f4, .slice A5a a.f5.length c5a, .slice A6a a.f6.length c6a, .slice A7a a.f7.length c7a, .slice A8a a.f8.length c8a] 26)).alloc (.cells #[.int .i64 b.f0, .int .u64 b.f1, .int .u64 b.f2, .int .u64 b.f3, .int .u64 b.f4, .slice A5b b.f5.length c5b, .slice A6b b.f6.length c6b, .slice A7b b.f7.length c7b, .slice A8b b.f8.length c8b] 26)) (w.heap.size + 1) #[.int .i64 b.f0, .int .u64 b.f1, .int .u64 b.f2, .int .u64 b.f3, .int .u64 b.f4, .slice A5b b.f5.length c5b, .slice A6b b.f6.length c6b, .slice A7b b.f7.length c7b, .slice A8b b.f8.length c8b] 26 by have := Blk.new (w.alloc (.cells #[.int .i64 a.f0, .int .u64 a.f1, .int .u64 a.f2, .int .u64 a.f3, .int .u64 a.f4, .slice A5a a.f5.length c5a, .slice A6a a.f6.length c6a, .slice A7a a.f7.length c7a, .slice A8a a.f8.length c8a] 26)) #[.int .i64 b.f0, .int .u64 b.f1, .int .u64 b.f2, .int .u64 b.f3, .int .u64 b.f4, .slice A5b b.f5.length c5b, .slice A6b b.f6.length c6b, .slice A7b b.f7.length c7b, .slice A8b b.f8.length c8b] 26; simpa using this)
        have hy := fun i => Y.out.cell i
        have HA := Aside0.mk (hua.below B.out)
        have HB := Aside0.mk (hub.below B.out)
        clear hua hub
        go_enter Try.func5, Try.ntmps5
        go_wp2_with (first | (go_at_call 23; (with_reducible refine (CS.out _ _ HA.out).mono ?_); rintro e W1 ⟨rfl, hb⟩; replace B := Aside0.mk (below_then B.out B.out.size hb); replace HA := Aside0.mk (HA.out.below hb); replace HB := Aside0.mk (HB.out.below hb); replace X := Aside0.mk (X.out.below hb); replace hx := fun i => X.out.cell i; replace Y := Aside0.mk (Y.out.below hb); replace hy := fun i => Y.out.cell i; clear  hb) | (go_at_call 23; (with_reducible refine (CT.out _ _ HB.out).mono ?_); rintro e W2 ⟨rfl, hb⟩; replace B := Aside0.mk (below_then B.out B.out.size hb); replace HA := Aside0.mk (HA.out.below hb); replace HB := Aside0.mk (HB.out.below hb); replace X := Aside0.mk (X.out.below hb); replace hx := fun i => X.out.cell i; replace Y := Aside0.mk (Y.out.below hb); replace hy := fun i => Y.out.cell i; clear  hb) | (go_at_call 25; (with_reducible refine (F1.out _ _ HA.out).mono ?_); rintro e W3 ⟨D5x, g5x, D6x, g6x, D7x, g7x, D8x, g8x, rfl, hh, hb⟩; replace B := Aside0.mk (below_then B.out B.out.size hb); replace HA := Aside0.mk (HA.out.below hb); replace HB := Aside0.mk (HB.out.below hb); replace X := Aside0.mk (X.out.below hb); replace hx := fun i => X.out.cell i; replace Y := Aside0.mk (Y.out.below hb); replace hy := fun i => Y.out.cell i; have HX := Aside0.mk hh; have hxa := fun i => (X.out.alloc (.cells #[.int .i64 x.f0, .int .u64 x.f1, .int .u64 x.f2, .int .u64 x.f3, .int .u64 x.f4, .slice D5x x.f5.length g5x, .slice D6x x.f6.length g6x, .slice D7x x.f7.length g7x, .slice D8x x.f8.length g8x] 53)).cell i; have hya := fun i => (Y.out.alloc (.cells #[.int .i64 x.f0, .int .u64 x.f1, .int .u64 x.f2, .int .u64 x.f3, .int .u64 x.f4, .slice D5x x.f5.length g5x, .slice D6x x.f6.length g6x, .slice D7x x.f7.length g7x, .slice D8x x.f8.length g8x] 53)).cell i; clear hh hb))
        (try clear hxa hya)
        have hal := below_alloc (Below.refl W3.heap.size W3) (.cells #[.int .i64 x.f0, .int .u64 x.f1, .int .u64 x.f2, .int .u64 x.f3, .int .u64 x.f4, .slice D5x x.f5.length g5x, .slice D6x x.f6.length g6x, .slice D7x x.f7.length g7x, .slice D8x x.f8.length g8x] 53)
        replace B := Aside0.mk (below_then B.out B.out.size hal)
        replace HA := Aside0.mk (HA.out.below hal)
        replace HB := Aside0.mk (HB.out.below hal)
        replace HX := Aside0.mk (HX.out.below hal)
        replace X := Aside0.mk (X.out.alloc (.cells #[.int .i64 x.f0, .int .u64 x.f1, .int .u64 x.f2, .int .u64 x.f3, .int .u64 x.f4, .slice D5x x.f5.length g5x, .slice D6x x.f6.length g6x, .slice D7x x.f7.length g7x, .slice D8x x.f8.length g8x] 53)); replace hx := fun i => X.out.cell i
        replace Y := Aside0.mk (Y.out.alloc (.cells #[.int .i64 x.f0, .int .u64 x.f1, .int .u64 x.f2, .int .u64 x.f3, .int .u64 x.f4, .slice D5x x.f5.length g5x, .slice D6x x.f6.length g6x, .slice D7x x.f7.length g7x, .slice D8x x.f8.length g8x] 53)); replace hy := fun i => Y.out.cell i
        have P := Aside0.mk (Blk.new W3 #[.int .i64 x.f0, .int .u64 x.f1, .int .u64 x.f2, .int .u64 x.f3, .int .u64 x.f4, .slice D5x x.f5.length g5x, .slice D6x x.f6.length g6x, .slice D7x x.f7.length g7x, .slice D8x x.f8.length g8x] 53); have hp := fun i => P.out.cell i; clear hal
        go_wp2_with (first | (go_at_call 25; (with_reducible refine (F2.out _ _ HB.out).mono ?_); rintro e W4 ⟨D5y, g5y, D6y, g6y, D7y, g7y, D8y, g8y, rfl, hh, hb⟩; replace B := Aside0.mk (below_then B.out B.out.size hb); replace HA := Aside0.mk (HA.out.below hb); replace HB := Aside0.mk (HB.out.below hb); replace HX := Aside0.mk (HX.out.below hb); replace X := Aside0.mk (X.out.below hb); replace hx := fun i => X.out.cell i; replace Y := Aside0.mk (Y.out.below hb); replace hy := fun i => Y.out.cell i; replace P := Aside0.mk (P.out.below hb); replace hp := fun i => P.out.cell i; have HY := Aside0.mk hh; have hxa := fun i => (X.out.alloc (.cells #[.int .i64 y.f0, .int .u64 y.f1, .int .u64 y.f2, .int .u64 y.f3, .int .u64 y.f4, .slice D5y y.f5.length g5y, .slice D6y y.f6.length g6y, .slice D7y y.f7.length g7y, .slice D8y y.f8.length g8y] 53)).cell i; have hya := fun i => (Y.out.alloc (.cells #[.int .i64 y.f0, .int .u64 y.f1, .int .u64 y.f2, .int .u64 y.f3, .int .u64 y.f4, .slice D5y y.f5.length g5y, .slice D6y y.f6.length g6y, .slice D7y y.f7.length g7y, .slice D8y y.f8.length g8y] 53)).cell i; have hpa := fun i => (P.out.alloc (.cells #[.int .i64 y.f0, .int .u64 y.f1, .int .u64 y.f2, .int .u64 y.f3, .int .u64 y.f4, .slice D5y y.f5.length g5y, .slice D6y y.f6.length g6y, .slice D7y y.f7.length g7y, .slice D8y y.f8.length g8y] 53)).cell i; clear hh hb))
        (try clear hxa hya hpa)
        have hal := below_alloc (Below.refl W4.heap.size W4) (.cells #[.int .i64 y.f0, .int .u64 y.f1, .int .u64 y.f2, .int .u64 y.f3, .int .u64 y.f4, .slice D5y y.f5.length g5y, .slice D6y y.f6.length g6y, .slice D7y y.f7.length g7y, .slice D8y y.f8.length g8y] 53)
        replace B := Aside0.mk (below_then B.out B.out.size hal)
        replace HA := Aside0.mk (HA.out.below hal)
        replace HB := Aside0.mk (HB.out.below hal)
        replace HX := Aside0.mk (HX.out.below hal)
        replace HY := Aside0.mk (HY.out.below hal)
        replace X := Aside0.mk (X.out.alloc (.cells #[.int .i64 y.f0, .int .u64 y.f1, .int .u64 y.f2, .int .u64 y.f3, .int .u64 y.f4, .slice D5y y.f5.length g5y, .slice D6y y.f6.length g6y, .slice D7y y.f7.length g7y, .slice D8y y.f8.length g8y] 53)); replace hx := fun i => X.out.cell i
        replace Y := Aside0.mk (Y.out.alloc (.cells #[.int .i64 y.f0, .int .u64 y.f1, .int .u64 y.f2, .int .u64 y.f3, .int .u64 y.f4, .slice D5y y.f5.length g5y, .slice D6y y.f6.length g6y, .slice D7y y.f7.length g7y, .slice D8y y.f8.length g8y] 53)); replace hy := fun i => Y.out.cell i
        replace P := Aside0.mk (P.out.alloc (.cells #[.int .i64 y.f0, .int .u64 y.f1, .int .u64 y.f2, .int .u64 y.f3, .int .u64 y.f4, .slice D5y y.f5.length g5y, .slice D6y y.f6.length g6y, .slice D7y y.f7.length g7y, .slice D8y y.f8.length g8y] 53)); replace hp := fun i => P.out.cell i
        have Q := Aside0.mk (Blk.new W4 #[.int .i64 y.f0, .int .u64 y.f1, .int .u64 y.f2, .int .u64 y.f3, .int .u64 y.f4, .slice D5y y.f5.length g5y, .slice D6y y.f6.length g6y, .slice D7y y.f7.length g7y, .slice D8y y.f8.length g8y] 53); have hq := fun i => Q.out.cell i; clear hal
        go_wp2_with (first | (go_at_call 26; (with_reducible refine (K1.out _ _ _ HA.out HB.out).mono ?_); rintro e W5 ⟨rfl, hb⟩; replace B := Aside0.mk (below_then B.out B.out.size hb); replace HA := Aside0.mk (HA.out.below hb); replace HB := Aside0.mk (HB.out.below hb); replace HX := Aside0.mk (HX.out.below hb); replace HY := Aside0.mk (HY.out.below hb); replace X := Aside0.mk (X.out.below hb); replace hx := fun i => X.out.cell i; replace Y := Aside0.mk (Y.out.below hb); replace hy := fun i => Y.out.cell i; replace P := Aside0.mk (P.out.below hb); replace hp := fun i => P.out.cell i; replace Q := Aside0.mk (Q.out.below hb); replace hq := fun i => Q.out.cell i; have hxa := fun i => (X.out.alloc (.cells #[.int .i64 z1, .int .i64 z2] 57)).cell i; have hya := fun i => (Y.out.alloc (.cells #[.int .i64 z1, .int .i64 z2] 57)).cell i; have hpa := fun i => (P.out.alloc (.cells #[.int .i64 z1, .int .i64 z2] 57)).cell i; have hqa := fun i => (Q.out.alloc (.cells #[.int .i64 z1, .int .i64 z2] 57)).cell i; clear  hb))
        (try clear hxa hya hpa hqa)
        have hal := below_alloc (Below.refl W5.heap.size W5) (.cells #[.int .i64 z1, .int .i64 z2] 57)
        replace B := Aside0.mk (below_then B.out B.out.size hal)
        replace HA := Aside0.mk (HA.out.below hal)
        replace HB := Aside0.mk (HB.out.below hal)
        replace HX := Aside0.mk (HX.out.below hal)
        replace HY := Aside0.mk (HY.out.below hal)
        replace X := Aside0.mk (X.out.alloc (.cells #[.int .i64 z1, .int .i64 z2] 57)); replace hx := fun i => X.out.cell i
        replace Y := Aside0.mk (Y.out.alloc (.cells #[.int .i64 z1, .int .i64 z2] 57)); replace hy := fun i => Y.out.cell i
        replace P := Aside0.mk (P.out.alloc (.cells #[.int .i64 z1, .int .i64 z2] 57)); replace hp := fun i => P.out.cell i
        replace Q := Aside0.mk (Q.out.alloc (.cells #[.int .i64 z1, .int .i64 z2] 57)); replace hq := fun i => Q.out.cell i
        have U := Aside0.mk (Blk.new W5 #[.int .i64 z1, .int .i64 z2] 57); have hu := fun i => U.out.cell i; clear hal
        go_wp2_with (first | (go_at_call 27; (with_reducible refine (K2.out _ _ _ HX.out HY.out).mono ?_); rintro e W6 ⟨rfl, hb⟩; replace B := Aside0.mk (below_then B.out B.out.size hb); replace HA := Aside0.mk (HA.out.below hb); replace HB := Aside0.mk (HB.out.below hb); replace HX := Aside0.mk (HX.out.below hb); replace HY := Aside0.mk (HY.out.below hb); replace X := Aside0.mk (X.out.below hb); replace hx := fun i => X.out.cell i; replace Y := Aside0.mk (Y.out.below hb); replace hy := fun i => Y.out.cell i; replace P := Aside0.mk (P.out.below hb); replace hp := fun i => P.out.cell i; replace Q := Aside0.mk (Q.out.below hb); replace hq := fun i => Q.out.cell i; replace U := Aside0.mk (U.out.below hb); replace hu := fun i => U.out.cell i; have hxa := fun i => (X.out.alloc (.cells #[.int .i64 z1, .int .i64 z2] 57)).cell i; have hya := fun i => (Y.out.alloc (.cells #[.int .i64 z1, .int .i64 z2] 57)).cell i; have hpa := fun i => (P.out.alloc (.cells #[.int .i64 z1, .int .i64 z2] 57)).cell i; have hqa := fun i => (Q.out.alloc (.cells #[.int .i64 z1, .int .i64 z2] 57)).cell i; have hua := fun i => (U.out.alloc (.cells #[.int .i64 z1, .int .i64 z2] 57)).cell i; clear  hb))
        (try clear hxa hya hpa hqa hua)
        have hal := below_alloc (Below.refl W6.heap.size W6) (.cells #[.int .i64 z1, .int .i64 z2] 57)
        replace B := Aside0.mk (below_then B.out B.out.size hal)
        replace HA := Aside0.mk (HA.out.below hal)
        replace HB := Aside0.mk (HB.out.below hal)
        replace HX := Aside0.mk (HX.out.below hal)
        replace HY := Aside0.mk (HY.out.below hal)
        replace X := Aside0.mk (X.out.alloc (.cells #[.int .i64 z1, .int .i64 z2] 57)); replace hx := fun i => X.out.cell i
        replace Y := Aside0.mk (Y.out.alloc (.cells #[.int .i64 z1, .int .i64 z2] 57)); replace hy := fun i => Y.out.cell i
        replace P := Aside0.mk (P.out.alloc (.cells #[.int .i64 z1, .int .i64 z2] 57)); replace hp := fun i => P.out.cell i
        replace Q := Aside0.mk (Q.out.alloc (.cells #[.int .i64 z1, .int .i64 z2] 57)); replace hq := fun i => Q.out.cell i
        replace U := Aside0.mk (U.out.alloc (.cells #[.int .i64 z1, .int .i64 z2] 57)); replace hu := fun i => U.out.cell i
        have S := Aside0.mk (Blk.new W6 #[.int .i64 z1, .int .i64 z2] 57); have hs := fun i => S.out.cell i; clear hal
        go_wp2_with (first | (go_at_call 24; (with_reducible refine (awake11_c _).mono ?_); rintro e W7 ⟨rfl, hb⟩; replace B := Aside0.mk (below_then B.out B.out.size hb); replace HA := Aside0.mk (HA.out.below hb); replace HB := Aside0.mk (HB.out.below hb); replace HX := Aside0.mk (HX.out.below hb); replace HY := Aside0.mk (HY.out.below hb); replace X := Aside0.mk (X.out.below hb); replace hx := fun i => X.out.cell i; replace Y := Aside0.mk (Y.out.below hb); replace hy := fun i => Y.out.cell i; replace P := Aside0.mk (P.out.below hb); replace hp := fun i => P.out.cell i; replace Q := Aside0.mk (Q.out.below hb); replace hq := fun i => Q.out.cell i; replace U := Aside0.mk (U.out.below hb); replace hu := fun i => U.out.cell i; replace S := Aside0.mk (S.out.below hb); replace hs := fun i => S.out.cell i; clear  hb))
        go_ret
        exact ⟨rfl, B.out⟩
    · have d7 : (z1 == 0) = false := beq_eq_false_iff_ne.2 c5
      clear c5 dz
      by_cases c4 : b.f3 ≤ 9007199254740992
      · have d4 : decide (9007199254740992 < b.f3) = false := decide_eq_false (by omega)
        clear c4 hA3 hB3
        obtain ⟨A5a, c5a, A6a, c6a, A7a, c7a, A8a, c8a, e, -⟩ := hua.open_
        subst e
        obtain ⟨A5b, c5b, A6b, c6b, A7b, c7b, A8b, c8b, e, -⟩ := hub.open_
        subst e
        have B := Aside0.mk (below_alloc (below_alloc (Below.refl w.heap.size w) (.cells #[.int .i64 a.f0, .int .u64 a.f1, .int .u64 a.f2, .int .u64 a.f3, .int .u64 a.f4, .slice A5a a.f5.length c5a, .slice A6a a.f6.length c6a, .slice A7a a.f7.length c7a, .slice A8a a.f8.length c8a] 26)) (.cells #[.int .i64 b.f0, .int .u64 b.f1, .int .u64 b.f2, .int .u64 b.f3, .int .u64 b.f4, .slice A5b b.f5.length c5b, .slice A6b b.f6.length c6b, .slice A7b b.f7.length c7b, .slice A8b b.f8.length c8b] 26))
        have X := Aside0.mk ((Blk.new w #[.int .i64 a.f0, .int .u64 a.f1, .int .u64 a.f2, .int .u64 a.f3, .int .u64 a.f4, .slice A5a a.f5.length c5a, .slice A6a a.f6.length c6a, .slice A7a a.f7.length c7a, .slice A8a a.f8.length c8a] 26).alloc (.cells #[.int .i64 b.f0, .int .u64 b.f1, .int .u64 b.f2, .int .u64 b.f3, .int .u64 b.f4, .slice A5b b.f5.length c5b, .slice A6b b.f6.length c6b, .slice A7b b.f7.length c7b, .slice A8b b.f8.length c8b] 26))
        have hx := fun i => X.out.cell i
        have Y := Aside0.mk (show Blk ((w.alloc (.cells #[.int .i64 a.f0, .int .u64 a.f1, .int .u64 a.f2, .int .u64 a.f3, .int .u64 a.f4, .slice A5a a.f5.length c5a, .slice A6a a.f6.length c6a, .slice A7a a.f7.length c7a, .slice A8a a.f8.length c8a] 26)).alloc (.cells #[.int .i64 b.f0, .int .u64 b.f1, .int .u64 b.f2, .int .u64 b.f3, .int .u64 b.f4, .slice A5b b.f5.length c5b, .slice A6b b.f6.length c6b, .slice A7b b.f7.length c7b, .slice A8b b.f8.length c8b] 26)) (w.heap.size + 1) #[.int .i64 b.f0, .int .u64 b.f1, .int .u64 b.f2, .int .u64 b.f3, .int .u64 b.f4, .slice A5b b.f5.length c5b, .slice A6b b.f6.length c6b, .slice A7b b.f7.length c7b, .slice A8b b.f8.length c8b] 26 by have := Blk.new (w.alloc (.cells #[.int .i64 a.f0, .int .u64 a.f1, .int .u64 a.f2, .int .u64 a.f3, .int .u64 a.f4, .slice A5a a.f5.length c5a, .slice A6a a.f6.length c6a, .slice A7a a.f7.length c7a, .slice A8a a.f8.length c8a] 26)) #[.int .i64 b.f0, .int .u64 b.f1, .int .u64 b.f2, .int .u64 b.f3, .int .u64 b.f4, .slice A5b b.f5.length c5b, .slice A6b b.f6.length c6b, .slice A7b b.f7.length c7b, .slice A8b b.f8.length c8b] 26; simpa using this)
        have hy := fun i => Y.out.cell i
        have HA := Aside0.mk (hua.below B.out)
        have HB := Aside0.mk (hub.below B.out)
        clear hua hub
        go_enter Try.func5, Try.ntmps5
        go_wp2_with (first | (go_at_call 23; (with_reducible refine (CS.out _ _ HA.out).mono ?_); rintro e W1 ⟨rfl, hb⟩; replace B := Aside0.mk (below_then B.out B.out.size hb); replace HA := Aside0.mk (HA.out.below hb); replace HB := Aside0.mk (HB.out.below hb); replace X := Aside0.mk (X.out.below hb); replace hx := fun i => X.out.cell i; replace Y := Aside0.mk (Y.out.below hb); replace hy := fun i => Y.out.cell i; clear  hb) | (go_at_call 23; (with_reducible refine (CT.out _ _ HB.out).mono ?_); rintro e W2 ⟨rfl, hb⟩; replace B := Aside0.mk (below_then B.out B.out.size hb); replace HA := Aside0.mk (HA.out.below hb); replace HB := Aside0.mk (HB.out.below hb); replace X := Aside0.mk (X.out.below hb); replace hx := fun i => X.out.cell i; replace Y := Aside0.mk (Y.out.below hb); replace hy := fun i => Y.out.cell i; clear  hb) | (go_at_call 25; (with_reducible refine (F1.out _ _ HA.out).mono ?_); rintro e W3 ⟨D5x, g5x, D6x, g6x, D7x, g7x, D8x, g8x, rfl, hh, hb⟩; replace B := Aside0.mk (below_then B.out B.out.size hb); replace HA := Aside0.mk (HA.out.below hb); replace HB := Aside0.mk (HB.out.below hb); replace X := Aside0.mk (X.out.below hb); replace hx := fun i => X.out.cell i; replace Y := Aside0.mk (Y.out.below hb); replace hy := fun i => Y.out.cell i; have HX := Aside0.mk hh; have hxa := fun i => (X.out.alloc (.cells #[.int .i64 x.f0, .int .u64 x.f1, .int .u64 x.f2, .int .u64 x.f3, .int .u64 x.f4, .slice D5x x.f5.length g5x, .slice D6x x.f6.length g6x, .slice D7x x.f7.length g7x, .slice D8x x.f8.length g8x] 53)).cell i; have hya := fun i => (Y.out.alloc (.cells #[.int .i64 x.f0, .int .u64 x.f1, .int .u64 x.f2, .int .u64 x.f3, .int .u64 x.f4, .slice D5x x.f5.length g5x, .slice D6x x.f6.length g6x, .slice D7x x.f7.length g7x, .slice D8x x.f8.length g8x] 53)).cell i; clear hh hb))
        (try clear hxa hya)
        have hal := below_alloc (Below.refl W3.heap.size W3) (.cells #[.int .i64 x.f0, .int .u64 x.f1, .int .u64 x.f2, .int .u64 x.f3, .int .u64 x.f4, .slice D5x x.f5.length g5x, .slice D6x x.f6.length g6x, .slice D7x x.f7.length g7x, .slice D8x x.f8.length g8x] 53)
        replace B := Aside0.mk (below_then B.out B.out.size hal)
        replace HA := Aside0.mk (HA.out.below hal)
        replace HB := Aside0.mk (HB.out.below hal)
        replace HX := Aside0.mk (HX.out.below hal)
        replace X := Aside0.mk (X.out.alloc (.cells #[.int .i64 x.f0, .int .u64 x.f1, .int .u64 x.f2, .int .u64 x.f3, .int .u64 x.f4, .slice D5x x.f5.length g5x, .slice D6x x.f6.length g6x, .slice D7x x.f7.length g7x, .slice D8x x.f8.length g8x] 53)); replace hx := fun i => X.out.cell i
        replace Y := Aside0.mk (Y.out.alloc (.cells #[.int .i64 x.f0, .int .u64 x.f1, .int .u64 x.f2, .int .u64 x.f3, .int .u64 x.f4, .slice D5x x.f5.length g5x, .slice D6x x.f6.length g6x, .slice D7x x.f7.length g7x, .slice D8x x.f8.length g8x] 53)); replace hy := fun i => Y.out.cell i
        have P := Aside0.mk (Blk.new W3 #[.int .i64 x.f0, .int .u64 x.f1, .int .u64 x.f2, .int .u64 x.f3, .int .u64 x.f4, .slice D5x x.f5.length g5x, .slice D6x x.f6.length g6x, .slice D7x x.f7.length g7x, .slice D8x x.f8.length g8x] 53); have hp := fun i => P.out.cell i; clear hal
        go_wp2_with (first | (go_at_call 25; (with_reducible refine (F2.out _ _ HB.out).mono ?_); rintro e W4 ⟨D5y, g5y, D6y, g6y, D7y, g7y, D8y, g8y, rfl, hh, hb⟩; replace B := Aside0.mk (below_then B.out B.out.size hb); replace HA := Aside0.mk (HA.out.below hb); replace HB := Aside0.mk (HB.out.below hb); replace HX := Aside0.mk (HX.out.below hb); replace X := Aside0.mk (X.out.below hb); replace hx := fun i => X.out.cell i; replace Y := Aside0.mk (Y.out.below hb); replace hy := fun i => Y.out.cell i; replace P := Aside0.mk (P.out.below hb); replace hp := fun i => P.out.cell i; have HY := Aside0.mk hh; have hxa := fun i => (X.out.alloc (.cells #[.int .i64 y.f0, .int .u64 y.f1, .int .u64 y.f2, .int .u64 y.f3, .int .u64 y.f4, .slice D5y y.f5.length g5y, .slice D6y y.f6.length g6y, .slice D7y y.f7.length g7y, .slice D8y y.f8.length g8y] 53)).cell i; have hya := fun i => (Y.out.alloc (.cells #[.int .i64 y.f0, .int .u64 y.f1, .int .u64 y.f2, .int .u64 y.f3, .int .u64 y.f4, .slice D5y y.f5.length g5y, .slice D6y y.f6.length g6y, .slice D7y y.f7.length g7y, .slice D8y y.f8.length g8y] 53)).cell i; have hpa := fun i => (P.out.alloc (.cells #[.int .i64 y.f0, .int .u64 y.f1, .int .u64 y.f2, .int .u64 y.f3, .int .u64 y.f4, .slice D5y y.f5.length g5y, .slice D6y y.f6.length g6y, .slice D7y y.f7.length g7y, .slice D8y y.f8.length g8y] 53)).cell i; clear hh hb))
        (try clear hxa hya hpa)
        have hal := below_alloc (Below.refl W4.heap.size W4) (.cells #[.int .i64 y.f0, .int .u64 y.f1, .int .u64 y.f2, .int .u64 y.f3, .int .u64 y.f4, .slice D5y y.f5.length g5y, .slice D6y y.f6.length g6y, .slice D7y y.f7.length g7y, .slice D8y y.f8.length g8y] 53)
        replace B := Aside0.mk (below_then B.out B.out.size hal)
        replace HA := Aside0.mk (HA.out.below hal)
        replace HB := Aside0.mk (HB.out.below hal)
        replace HX := Aside0.mk (HX.out.below hal)
        replace HY := Aside0.mk (HY.out.below hal)
        replace X := Aside0.mk (X.out.alloc (.cells #[.int .i64 y.f0, .int .u64 y.f1, .int .u64 y.f2, .int .u64 y.f3, .int .u64 y.f4, .slice D5y y.f5.length g5y, .slice D6y y.f6.length g6y, .slice D7y y.f7.length g7y, .slice D8y y.f8.length g8y] 53)); replace hx := fun i => X.out.cell i
        replace Y := Aside0.mk (Y.out.alloc (.cells #[.int .i64 y.f0, .int .u64 y.f1, .int .u64 y.f2, .int .u64 y.f3, .int .u64 y.f4, .slice D5y y.f5.length g5y, .slice D6y y.f6.length g6y, .slice D7y y.f7.length g7y, .slice D8y y.f8.length g8y] 53)); replace hy := fun i => Y.out.cell i
        replace P := Aside0.mk (P.out.alloc (.cells #[.int .i64 y.f0, .int .u64 y.f1, .int .u64 y.f2, .int .u64 y.f3, .int .u64 y.f4, .slice D5y y.f5.length g5y, .slice D6y y.f6.length g6y, .slice D7y y.f7.length g7y, .slice D8y y.f8.length g8y] 53)); replace hp := fun i => P.out.cell i
        have Q := Aside0.mk (Blk.new W4 #[.int .i64 y.f0, .int .u64 y.f1, .int .u64 y.f2, .int .u64 y.f3, .int .u64 y.f4, .slice D5y y.f5.length g5y, .slice D6y y.f6.length g6y, .slice D7y y.f7.length g7y, .slice D8y y.f8.length g8y] 53); have hq := fun i => Q.out.cell i; clear hal
        go_wp2_with (first | (go_at_call 26; (with_reducible refine (K1.out _ _ _ HA.out HB.out).mono ?_); rintro e W5 ⟨rfl, hb⟩; replace B := Aside0.mk (below_then B.out B.out.size hb); replace HA := Aside0.mk (HA.out.below hb); replace HB := Aside0.mk (HB.out.below hb); replace HX := Aside0.mk (HX.out.below hb); replace HY := Aside0.mk (HY.out.below hb); replace X := Aside0.mk (X.out.below hb); replace hx := fun i => X.out.cell i; replace Y := Aside0.mk (Y.out.below hb); replace hy := fun i => Y.out.cell i; replace P := Aside0.mk (P.out.below hb); replace hp := fun i => P.out.cell i; replace Q := Aside0.mk (Q.out.below hb); replace hq := fun i => Q.out.cell i; have hxa := fun i => (X.out.alloc (.cells #[.int .i64 z1, .int .i64 z2] 57)).cell i; have hya := fun i => (Y.out.alloc (.cells #[.int .i64 z1, .int .i64 z2] 57)).cell i; have hpa := fun i => (P.out.alloc (.cells #[.int .i64 z1, .int .i64 z2] 57)).cell i; have hqa := fun i => (Q.out.alloc (.cells #[.int .i64 z1, .int .i64 z2] 57)).cell i; clear  hb))
        (try clear hxa hya hpa hqa)
        have hal := below_alloc (Below.refl W5.heap.size W5) (.cells #[.int .i64 z1, .int .i64 z2] 57)
        replace B := Aside0.mk (below_then B.out B.out.size hal)
        replace HA := Aside0.mk (HA.out.below hal)
        replace HB := Aside0.mk (HB.out.below hal)
        replace HX := Aside0.mk (HX.out.below hal)
        replace HY := Aside0.mk (HY.out.below hal)
        replace X := Aside0.mk (X.out.alloc (.cells #[.int .i64 z1, .int .i64 z2] 57)); replace hx := fun i => X.out.cell i
        replace Y := Aside0.mk (Y.out.alloc (.cells #[.int .i64 z1, .int .i64 z2] 57)); replace hy := fun i => Y.out.cell i
        replace P := Aside0.mk (P.out.alloc (.cells #[.int .i64 z1, .int .i64 z2] 57)); replace hp := fun i => P.out.cell i
        replace Q := Aside0.mk (Q.out.alloc (.cells #[.int .i64 z1, .int .i64 z2] 57)); replace hq := fun i => Q.out.cell i
        have U := Aside0.mk (Blk.new W5 #[.int .i64 z1, .int .i64 z2] 57); have hu := fun i => U.out.cell i; clear hal
        go_wp2_with (first | (go_at_call 27; (with_reducible refine (K2.out _ _ _ HX.out HY.out).mono ?_); rintro e W6 ⟨rfl, hb⟩; replace B := Aside0.mk (below_then B.out B.out.size hb); replace HA := Aside0.mk (HA.out.below hb); replace HB := Aside0.mk (HB.out.below hb); replace HX := Aside0.mk (HX.out.below hb); replace HY := Aside0.mk (HY.out.below hb); replace X := Aside0.mk (X.out.below hb); replace hx := fun i => X.out.cell i; replace Y := Aside0.mk (Y.out.below hb); replace hy := fun i => Y.out.cell i; replace P := Aside0.mk (P.out.below hb); replace hp := fun i => P.out.cell i; replace Q := Aside0.mk (Q.out.below hb); replace hq := fun i => Q.out.cell i; replace U := Aside0.mk (U.out.below hb); replace hu := fun i => U.out.cell i; have hxa := fun i => (X.out.alloc (.cells #[.int .i64 z1, .int .i64 z2] 57)).cell i; have hya := fun i => (Y.out.alloc (.cells #[.int .i64 z1, .int .i64 z2] 57)).cell i; have hpa := fun i => (P.out.alloc (.cells #[.int .i64 z1, .int .i64 z2] 57)).cell i; have hqa := fun i => (Q.out.alloc (.cells #[.int .i64 z1, .int .i64 z2] 57)).cell i; have hua := fun i => (U.out.alloc (.cells #[.int .i64 z1, .int .i64 z2] 57)).cell i; clear  hb))
        (try clear hxa hya hpa hqa hua)
        have hal := below_alloc (Below.refl W6.heap.size W6) (.cells #[.int .i64 z1, .int .i64 z2] 57)
        replace B := Aside0.mk (below_then B.out B.out.size hal)
        replace HA := Aside0.mk (HA.out.below hal)
        replace HB := Aside0.mk (HB.out.below hal)
        replace HX := Aside0.mk (HX.out.below hal)
        replace HY := Aside0.mk (HY.out.below hal)
        replace X := Aside0.mk (X.out.alloc (.cells #[.int .i64 z1, .int .i64 z2] 57)); replace hx := fun i => X.out.cell i
        replace Y := Aside0.mk (Y.out.alloc (.cells #[.int .i64 z1, .int .i64 z2] 57)); replace hy := fun i => Y.out.cell i
        replace P := Aside0.mk (P.out.alloc (.cells #[.int .i64 z1, .int .i64 z2] 57)); replace hp := fun i => P.out.cell i
        replace Q := Aside0.mk (Q.out.alloc (.cells #[.int .i64 z1, .int .i64 z2] 57)); replace hq := fun i => Q.out.cell i
        replace U := Aside0.mk (U.out.alloc (.cells #[.int .i64 z1, .int .i64 z2] 57)); replace hu := fun i => U.out.cell i
        have S := Aside0.mk (Blk.new W6 #[.int .i64 z1, .int .i64 z2] 57); have hs := fun i => S.out.cell i; clear hal
        go_wp2_with (first | (go_at_call 24; (with_reducible refine (awake11_c _).mono ?_); rintro e W7 ⟨rfl, hb⟩; replace B := Aside0.mk (below_then B.out B.out.size hb); replace HA := Aside0.mk (HA.out.below hb); replace HB := Aside0.mk (HB.out.below hb); replace HX := Aside0.mk (HX.out.below hb); replace HY := Aside0.mk (HY.out.below hb); replace X := Aside0.mk (X.out.below hb); replace hx := fun i => X.out.cell i; replace Y := Aside0.mk (Y.out.below hb); replace hy := fun i => Y.out.cell i; replace P := Aside0.mk (P.out.below hb); replace hp := fun i => P.out.cell i; replace Q := Aside0.mk (Q.out.below hb); replace hq := fun i => Q.out.cell i; replace U := Aside0.mk (U.out.below hb); replace hu := fun i => U.out.cell i; replace S := Aside0.mk (S.out.below hb); replace hs := fun i => S.out.cell i; clear  hb))
        go_ret
        exact ⟨rfl, B.out⟩
      · have d4 : decide (9007199254740992 < b.f3) = true := decide_eq_true (by omega)
        clear c4 hA3 hB3
        obtain ⟨A5a, c5a, A6a, c6a, A7a, c7a, A8a, c8a, e, -⟩ := hua.open_
        subst e
        obtain ⟨A5b, c5b, A6b, c6b, A7b, c7b, A8b, c8b, e, -⟩ := hub.open_
        subst e
        have B := Aside0.mk (below_alloc (below_alloc (Below.refl w.heap.size w) (.cells #[.int .i64 a.f0, .int .u64 a.f1, .int .u64 a.f2, .int .u64 a.f3, .int .u64 a.f4, .slice A5a a.f5.length c5a, .slice A6a a.f6.length c6a, .slice A7a a.f7.length c7a, .slice A8a a.f8.length c8a] 26)) (.cells #[.int .i64 b.f0, .int .u64 b.f1, .int .u64 b.f2, .int .u64 b.f3, .int .u64 b.f4, .slice A5b b.f5.length c5b, .slice A6b b.f6.length c6b, .slice A7b b.f7.length c7b, .slice A8b b.f8.length c8b] 26))
        have X := Aside0.mk ((Blk.new w #[.int .i64 a.f0, .int .u64 a.f1, .int .u64 a.f2, .int .u64 a.f3, .int .u64 a.f4, .slice A5a a.f5.length c5a, .slice A6a a.f6.length c6a, .slice A7a a.f7.length c7a, .slice A8a a.f8.length c8a] 26).alloc (.cells #[.int .i64 b.f0, .int .u64 b.f1, .int .u64 b.f2, .int .u64 b.f3, .int .u64 b.f4, .slice A5b b.f5.length c5b, .slice A6b b.f6.length c6b, .slice A7b b.f7.length c7b, .slice A8b b.f8.length c8b] 26))
        have hx := fun i => X.out.cell i
        have Y := Aside0.mk (show Blk ((w.alloc (.cells #[.int .i64 a.f0, .int .u64 a.f1, .int .u64 a.f2, .int .u64 a.f3, .int .u64 a.f4, .slice A5a a.f5.length c5a, .slice A6a a.f6.length c6a, .slice A7a a.f7.length c7a, .slice A8a a.f8.length c8a] 26)).alloc (.cells #[.int .i64 b.f0, .int .u64 b.f1, .int .u64 b.f2, .int .u64 b.f3, .int .u64 b.f4, .slice A5b b.f5.length c5b, .slice A6b b.f6.length c6b, .slice A7b b.f7.length c7b, .slice A8b b.f8.length c8b] 26)) (w.heap.size + 1) #[.int .i64 b.f0, .int .u64 b.f1, .int .u64 b.f2, .int .u64 b.f3, .int .u64 b.f4, .slice A5b b.f5.length c5b, .slice A6b b.f6.length c6b, .slice A7b b.f7.length c7b, .slice A8b b.f8.length c8b] 26 by have := Blk.new (w.alloc (.cells #[.int .i64 a.f0, .int .u64 a.f1, .int .u64 a.f2, .int .u64 a.f3, .int .u64 a.f4, .slice A5a a.f5.length c5a, .slice A6a a.f6.length c6a, .slice A7a a.f7.length c7a, .slice A8a a.f8.length c8a] 26)) #[.int .i64 b.f0, .int .u64 b.f1, .int .u64 b.f2, .int .u64 b.f3, .int .u64 b.f4, .slice A5b b.f5.length c5b, .slice A6b b.f6.length c6b, .slice A7b b.f7.length c7b, .slice A8b b.f8.length c8b] 26; simpa using this)
        have hy := fun i => Y.out.cell i
        have HA := Aside0.mk (hua.below B.out)
        have HB := Aside0.mk (hub.below B.out)
        clear hua hub
        go_enter Try.func5, Try.ntmps5
        go_wp2_with (first | (go_at_call 23; (with_reducible refine (CS.out _ _ HA.out).mono ?_); rintro e W1 ⟨rfl, hb⟩; replace B := Aside0.mk (below_then B.out B.out.size hb); replace HA := Aside0.mk (HA.out.below hb); replace HB := Aside0.mk (HB.out.below hb); replace X := Aside0.mk (X.out.below hb); replace hx := fun i => X.out.cell i; replace Y := Aside0.mk (Y.out.below hb); replace hy := fun i => Y.out.cell i; clear  hb) | (go_at_call 23; (with_reducible refine (CT.out _ _ HB.out).mono ?_); rintro e W2 ⟨rfl, hb⟩; replace B := Aside0.mk (below_then B.out B.out.size hb); replace HA := Aside0.mk (HA.out.below hb); replace HB := Aside0.mk (HB.out.below hb); replace X := Aside0.mk (X.out.below hb); replace hx := fun i => X.out.cell i; replace Y := Aside0.mk (Y.out.below hb); replace hy := fun i => Y.out.cell i; clear  hb) | (go_at_call 25; (with_reducible refine (F1.out _ _ HA.out).mono ?_); rintro e W3 ⟨D5x, g5x, D6x, g6x, D7x, g7x, D8x, g8x, rfl, hh, hb⟩; replace B := Aside0.mk (below_then B.out B.out.size hb); replace HA := Aside0.mk (HA.out.below hb); replace HB := Aside0.mk (HB.out.below hb); replace X := Aside0.mk (X.out.below hb); replace hx := fun i => X.out.cell i; replace Y := Aside0.mk (Y.out.below hb); replace hy := fun i => Y.out.cell i; have HX := Aside0.mk hh; have hxa := fun i => (X.out.alloc (.cells #[.int .i64 x.f0, .int .u64 x.f1, .int .u64 x.f2, .int .u64 x.f3, .int .u64 x.f4, .slice D5x x.f5.length g5x, .slice D6x x.f6.length g6x, .slice D7x x.f7.length g7x, .slice D8x x.f8.length g8x] 53)).cell i; have hya := fun i => (Y.out.alloc (.cells #[.int .i64 x.f0, .int .u64 x.f1, .int .u64 x.f2, .int .u64 x.f3, .int .u64 x.f4, .slice D5x x.f5.length g5x, .slice D6x x.f6.length g6x, .slice D7x x.f7.length g7x, .slice D8x x.f8.length g8x] 53)).cell i; clear hh hb))
        (try clear hxa hya)
        have hal := below_alloc (Below.refl W3.heap.size W3) (.cells #[.int .i64 x.f0, .int .u64 x.f1, .int .u64 x.f2, .int .u64 x.f3, .int .u64 x.f4, .slice D5x x.f5.length g5x, .slice D6x x.f6.length g6x, .slice D7x x.f7.length g7x, .slice D8x x.f8.length g8x] 53)
        replace B := Aside0.mk (below_then B.out B.out.size hal)
        replace HA := Aside0.mk (HA.out.below hal)
        replace HB := Aside0.mk (HB.out.below hal)
        replace HX := Aside0.mk (HX.out.below hal)
        replace X := Aside0.mk (X.out.alloc (.cells #[.int .i64 x.f0, .int .u64 x.f1, .int .u64 x.f2, .int .u64 x.f3, .int .u64 x.f4, .slice D5x x.f5.length g5x, .slice D6x x.f6.length g6x, .slice D7x x.f7.length g7x, .slice D8x x.f8.length g8x] 53)); replace hx := fun i => X.out.cell i
        replace Y := Aside0.mk (Y.out.alloc (.cells #[.int .i64 x.f0, .int .u64 x.f1, .int .u64 x.f2, .int .u64 x.f3, .int .u64 x.f4, .slice D5x x.f5.length g5x, .slice D6x x.f6.length g6x, .slice D7x x.f7.length g7x, .slice D8x x.f8.length g8x] 53)); replace hy := fun i => Y.out.cell i
        have P := Aside0.mk (Blk.new W3 #[.int .i64 x.f0, .int .u64 x.f1, .int .u64 x.f2, .int .u64 x.f3, .int .u64 x.f4, .slice D5x x.f5.length g5x, .slice D6x x.f6.length g6x, .slice D7x x.f7.length g7x, .slice D8x x.f8.length g8x] 53); have hp := fun i => P.out.cell i; clear hal
        go_wp2_with (first | (go_at_call 25; (with_reducible refine (F2.out _ _ HB.out).mono ?_); rintro e W4 ⟨D5y, g5y, D6y, g6y, D7y, g7y, D8y, g8y, rfl, hh, hb⟩; replace B := Aside0.mk (below_then B.out B.out.size hb); replace HA := Aside0.mk (HA.out.below hb); replace HB := Aside0.mk (HB.out.below hb); replace HX := Aside0.mk (HX.out.below hb); replace X := Aside0.mk (X.out.below hb); replace hx := fun i => X.out.cell i; replace Y := Aside0.mk (Y.out.below hb); replace hy := fun i => Y.out.cell i; replace P := Aside0.mk (P.out.below hb); replace hp := fun i => P.out.cell i; have HY := Aside0.mk hh; have hxa := fun i => (X.out.alloc (.cells #[.int .i64 y.f0, .int .u64 y.f1, .int .u64 y.f2, .int .u64 y.f3, .int .u64 y.f4, .slice D5y y.f5.length g5y, .slice D6y y.f6.length g6y, .slice D7y y.f7.length g7y, .slice D8y y.f8.length g8y] 53)).cell i; have hya := fun i => (Y.out.alloc (.cells #[.int .i64 y.f0, .int .u64 y.f1, .int .u64 y.f2, .int .u64 y.f3, .int .u64 y.f4, .slice D5y y.f5.length g5y, .slice D6y y.f6.length g6y, .slice D7y y.f7.length g7y, .slice D8y y.f8.length g8y] 53)).cell i; have hpa := fun i => (P.out.alloc (.cells #[.int .i64 y.f0, .int .u64 y.f1, .int .u64 y.f2, .int .u64 y.f3, .int .u64 y.f4, .slice D5y y.f5.length g5y, .slice D6y y.f6.length g6y, .slice D7y y.f7.length g7y, .slice D8y y.f8.length g8y] 53)).cell i; clear hh hb))
        (try clear hxa hya hpa)
        have hal := below_alloc (Below.refl W4.heap.size W4) (.cells #[.int .i64 y.f0, .int .u64 y.f1, .int .u64 y.f2, .int .u64 y.f3, .int .u64 y.f4, .slice D5y y.f5.length g5y, .slice D6y y.f6.length g6y, .slice D7y y.f7.length g7y, .slice D8y y.f8.length g8y] 53)
        replace B := Aside0.mk (below_then B.out B.out.size hal)
        replace HA := Aside0.mk (HA.out.below hal)
        replace HB := Aside0.mk (HB.out.below hal)
        replace HX := Aside0.mk (HX.out.below hal)
        replace HY := Aside0.mk (HY.out.below hal)
        replace X := Aside0.mk (X.out.alloc (.cells #[.int .i64 y.f0, .int .u64 y.f1, .int .u64 y.f2, .int .u64 y.f3, .int .u64 y.f4, .slice D5y y.f5.length g5y, .slice D6y y.f6.length g6y, .slice D7y y.f7.length g7y, .slice D8y y.f8.length g8y] 53)); replace hx := fun i => X.out.cell i
        replace Y := Aside0.mk (Y.out.alloc (.cells #[.int .i64 y.f0, .int .u64 y.f1, .int .u64 y.f2, .int .u64 y.f3, .int .u64 y.f4, .slice D5y y.f5.length g5y, .slice D6y y.f6.length g6y, .slice D7y y.f7.length g7y, .slice D8y y.f8.length g8y] 53)); replace hy := fun i => Y.out.cell i
        replace P := Aside0.mk (P.out.alloc (.cells #[.int .i64 y.f0, .int .u64 y.f1, .int .u64 y.f2, .int .u64 y.f3, .int .u64 y.f4, .slice D5y y.f5.length g5y, .slice D6y y.f6.length g6y, .slice D7y y.f7.length g7y, .slice D8y y.f8.length g8y] 53)); replace hp := fun i => P.out.cell i
        have Q := Aside0.mk (Blk.new W4 #[.int .i64 y.f0, .int .u64 y.f1, .int .u64 y.f2, .int .u64 y.f3, .int .u64 y.f4, .slice D5y y.f5.length g5y, .slice D6y y.f6.length g6y, .slice D7y y.f7.length g7y, .slice D8y y.f8.length g8y] 53); have hq := fun i => Q.out.cell i; clear hal
        go_wp2_with (first | (go_at_call 26; (with_reducible refine (K1.out _ _ _ HA.out HB.out).mono ?_); rintro e W5 ⟨rfl, hb⟩; replace B := Aside0.mk (below_then B.out B.out.size hb); replace HA := Aside0.mk (HA.out.below hb); replace HB := Aside0.mk (HB.out.below hb); replace HX := Aside0.mk (HX.out.below hb); replace HY := Aside0.mk (HY.out.below hb); replace X := Aside0.mk (X.out.below hb); replace hx := fun i => X.out.cell i; replace Y := Aside0.mk (Y.out.below hb); replace hy := fun i => Y.out.cell i; replace P := Aside0.mk (P.out.below hb); replace hp := fun i => P.out.cell i; replace Q := Aside0.mk (Q.out.below hb); replace hq := fun i => Q.out.cell i; have hxa := fun i => (X.out.alloc (.cells #[.int .i64 z1, .int .i64 z2] 57)).cell i; have hya := fun i => (Y.out.alloc (.cells #[.int .i64 z1, .int .i64 z2] 57)).cell i; have hpa := fun i => (P.out.alloc (.cells #[.int .i64 z1, .int .i64 z2] 57)).cell i; have hqa := fun i => (Q.out.alloc (.cells #[.int .i64 z1, .int .i64 z2] 57)).cell i; clear  hb))
        (try clear hxa hya hpa hqa)
        have hal := below_alloc (Below.refl W5.heap.size W5) (.cells #[.int .i64 z1, .int .i64 z2] 57)
        replace B := Aside0.mk (below_then B.out B.out.size hal)
        replace HA := Aside0.mk (HA.out.below hal)
        replace HB := Aside0.mk (HB.out.below hal)
        replace HX := Aside0.mk (HX.out.below hal)
        replace HY := Aside0.mk (HY.out.below hal)
        replace X := Aside0.mk (X.out.alloc (.cells #[.int .i64 z1, .int .i64 z2] 57)); replace hx := fun i => X.out.cell i
        replace Y := Aside0.mk (Y.out.alloc (.cells #[.int .i64 z1, .int .i64 z2] 57)); replace hy := fun i => Y.out.cell i
        replace P := Aside0.mk (P.out.alloc (.cells #[.int .i64 z1, .int .i64 z2] 57)); replace hp := fun i => P.out.cell i
        replace Q := Aside0.mk (Q.out.alloc (.cells #[.int .i64 z1, .int .i64 z2] 57)); replace hq := fun i => Q.out.cell i
        have U := Aside0.mk (Blk.new W5 #[.int .i64 z1, .int .i64 z2] 57); have hu := fun i => U.out.cell i; clear hal
        go_wp2_with (first | (go_at_call 27; (with_reducible refine (K2.out _ _ _ HX.out HY.out).mono ?_); rintro e W6 ⟨rfl, hb⟩; replace B := Aside0.mk (below_then B.out B.out.size hb); replace HA := Aside0.mk (HA.out.below hb); replace HB := Aside0.mk (HB.out.below hb); replace HX := Aside0.mk (HX.out.below hb); replace HY := Aside0.mk (HY.out.below hb); replace X := Aside0.mk (X.out.below hb); replace hx := fun i => X.out.cell i; replace Y := Aside0.mk (Y.out.below hb); replace hy := fun i => Y.out.cell i; replace P := Aside0.mk (P.out.below hb); replace hp := fun i => P.out.cell i; replace Q := Aside0.mk (Q.out.below hb); replace hq := fun i => Q.out.cell i; replace U := Aside0.mk (U.out.below hb); replace hu := fun i => U.out.cell i; have hxa := fun i => (X.out.alloc (.cells #[.int .i64 z1, .int .i64 z2] 57)).cell i; have hya := fun i => (Y.out.alloc (.cells #[.int .i64 z1, .int .i64 z2] 57)).cell i; have hpa := fun i => (P.out.alloc (.cells #[.int .i64 z1, .int .i64 z2] 57)).cell i; have hqa := fun i => (Q.out.alloc (.cells #[.int .i64 z1, .int .i64 z2] 57)).cell i; have hua := fun i => (U.out.alloc (.cells #[.int .i64 z1, .int .i64 z2] 57)).cell i; clear  hb))
        (try clear hxa hya hpa hqa hua)
        have hal := below_alloc (Below.refl W6.heap.size W6) (.cells #[.int .i64 z1, .int .i64 z2] 57)
        replace B := Aside0.mk (below_then B.out B.out.size hal)
        replace HA := Aside0.mk (HA.out.below hal)
        replace HB := Aside0.mk (HB.out.below hal)
        replace HX := Aside0.mk (HX.out.below hal)
        replace HY := Aside0.mk (HY.out.below hal)
        replace X := Aside0.mk (X.out.alloc (.cells #[.int .i64 z1, .int .i64 z2] 57)); replace hx := fun i => X.out.cell i
        replace Y := Aside0.mk (Y.out.alloc (.cells #[.int .i64 z1, .int .i64 z2] 57)); replace hy := fun i => Y.out.cell i
        replace P := Aside0.mk (P.out.alloc (.cells #[.int .i64 z1, .int .i64 z2] 57)); replace hp := fun i => P.out.cell i
        replace Q := Aside0.mk (Q.out.alloc (.cells #[.int .i64 z1, .int .i64 z2] 57)); replace hq := fun i => Q.out.cell i
        replace U := Aside0.mk (U.out.alloc (.cells #[.int .i64 z1, .int .i64 z2] 57)); replace hu := fun i => U.out.cell i
        have S := Aside0.mk (Blk.new W6 #[.int .i64 z1, .int .i64 z2] 57); have hs := fun i => S.out.cell i; clear hal
        go_wp2_with (first | (go_at_call 24; (with_reducible refine (awake11_c _).mono ?_); rintro e W7 ⟨rfl, hb⟩; replace B := Aside0.mk (below_then B.out B.out.size hb); replace HA := Aside0.mk (HA.out.below hb); replace HB := Aside0.mk (HB.out.below hb); replace HX := Aside0.mk (HX.out.below hb); replace HY := Aside0.mk (HY.out.below hb); replace X := Aside0.mk (X.out.below hb); replace hx := fun i => X.out.cell i; replace Y := Aside0.mk (Y.out.below hb); replace hy := fun i => Y.out.cell i; replace P := Aside0.mk (P.out.below hb); replace hp := fun i => P.out.cell i; replace Q := Aside0.mk (Q.out.below hb); replace hq := fun i => Q.out.cell i; replace U := Aside0.mk (U.out.below hb); replace hu := fun i => U.out.cell i; replace S := Aside0.mk (S.out.below hb); replace hs := fun i => S.out.cell i; clear  hb))
        go_ret
        exact ⟨rfl, B.out⟩
  · have d3 : decide (9007199254740992 < a.f3) = true := decide_eq_true (by omega)
    clear h2 c3 hA3 hB3
    by_cases c5 : v1 = 0
    · have d7 : (v1 == 0) = true := beq_iff_eq.2 c5
      have d8 := dz c5
      clear c5 dz
      obtain ⟨A5a, c5a, A6a, c6a, A7a, c7a, A8a, c8a, e, -⟩ := hua.open_
      subst e
      obtain ⟨A5b, c5b, A6b, c6b, A7b, c7b, A8b, c8b, e, -⟩ := hub.open_
      subst e
      have B := Aside0.mk (below_alloc (below_alloc (Below.refl w.heap.size w) (.cells #[.int .i64 a.f0, .int .u64 a.f1, .int .u64 a.f2, .int .u64 a.f3, .int .u64 a.f4, .slice A5a a.f5.length c5a, .slice A6a a.f6.length c6a, .slice A7a a.f7.length c7a, .slice A8a a.f8.length c8a] 26)) (.cells #[.int .i64 b.f0, .int .u64 b.f1, .int .u64 b.f2, .int .u64 b.f3, .int .u64 b.f4, .slice A5b b.f5.length c5b, .slice A6b b.f6.length c6b, .slice A7b b.f7.length c7b, .slice A8b b.f8.length c8b] 26))
      have X := Aside0.mk ((Blk.new w #[.int .i64 a.f0, .int .u64 a.f1, .int .u64 a.f2, .int .u64 a.f3, .int .u64 a.f4, .slice A5a a.f5.length c5a, .slice A6a a.f6.length c6a, .slice A7a a.f7.length c7a, .slice A8a a.f8.length c8a] 26).alloc (.cells #[.int .i64 b.f0, .int .u64 b.f1, .int .u64 b.f2, .int .u64 b.f3, .int .u64 b.f4, .slice A5b b.f5.length c5b, .slice A6b b.f6.length c6b, .slice A7b b.f7.length c7b, .slice A8b b.f8.length c8b] 26))
      have hx := fun i => X.out.cell i
      have Y := Aside0.mk (show Blk ((w.alloc (.cells #[.int .i64 a.f0, .int .u64 a.f1, .int .u64 a.f2, .int .u64 a.f3, .int .u64 a.f4, .slice A5a a.f5.length c5a, .slice A6a a.f6.length c6a, .slice A7a a.f7.length c7a, .slice A8a a.f8.length c8a] 26)).alloc (.cells #[.int .i64 b.f0, .int .u64 b.f1, .int .u64 b.f2, .int .u64 b.f3, .int .u64 b.f4, .slice A5b b.f5.length c5b, .slice A6b b.f6.length c6b, .slice A7b b.f7.length c7b, .slice A8b b.f8.length c8b] 26)) (w.heap.size + 1) #[.int .i64 b.f0, .int .u64 b.f1, .int .u64 b.f2, .int .u64 b.f3, .int .u64 b.f4, .slice A5b b.f5.length c5b, .slice A6b b.f6.length c6b, .slice A7b b.f7.length c7b, .slice A8b b.f8.length c8b] 26 by have := Blk.new (w.alloc (.cells #[.int .i64 a.f0, .int .u64 a.f1, .int .u64 a.f2, .int .u64 a.f3, .int .u64 a.f4, .slice A5a a.f5.length c5a, .slice A6a a.f6.length c6a, .slice A7a a.f7.length c7a, .slice A8a a.f8.length c8a] 26)) #[.int .i64 b.f0, .int .u64 b.f1, .int .u64 b.f2, .int .u64 b.f3, .int .u64 b.f4, .slice A5b b.f5.length c5b, .slice A6b b.f6.length c6b, .slice A7b b.f7.length c7b, .slice A8b b.f8.length c8b] 26; simpa using this)
      have hy := fun i => Y.out.cell i
      have HA := Aside0.mk (hua.below B.out)
      have HB := Aside0.mk (hub.below B.out)
      clear hua hub
      go_enter Try.func5, Try.ntmps5
      go_wp2_with (first | (go_at_call 23; (with_reducible refine (CS.out _ _ HA.out).mono ?_); rintro e W1 ⟨rfl, hb⟩; replace B := Aside0.mk (below_then B.out B.out.size hb); replace HA := Aside0.mk (HA.out.below hb); replace HB := Aside0.mk (HB.out.below hb); replace X := Aside0.mk (X.out.below hb); replace hx := fun i => X.out.cell i; replace Y := Aside0.mk (Y.out.below hb); replace hy := fun i => Y.out.cell i; clear  hb) | (go_at_call 23; (with_reducible refine (CT.out _ _ HB.out).mono ?_); rintro e W2 ⟨rfl, hb⟩; replace B := Aside0.mk (below_then B.out B.out.size hb); replace HA := Aside0.mk (HA.out.below hb); replace HB := Aside0.mk (HB.out.below hb); replace X := Aside0.mk (X.out.below hb); replace hx := fun i => X.out.cell i; replace Y := Aside0.mk (Y.out.below hb); replace hy := fun i => Y.out.cell i; clear  hb) | (go_at_call 25; (with_reducible refine (F1.out _ _ HA.out).mono ?_); rintro e W3 ⟨D5x, g5x, D6x, g6x, D7x, g7x, D8x, g8x, rfl, hh, hb⟩; replace B := Aside0.mk (below_then B.out B.out.size hb); replace HA := Aside0.mk (HA.out.below hb); replace HB := Aside0.mk (HB.out.below hb); replace X := Aside0.mk (X.out.below hb); replace hx := fun i => X.out.cell i; replace Y := Aside0.mk (Y.out.below hb); replace hy := fun i => Y.out.cell i; have HX := Aside0.mk hh; have hxa := fun i => (X.out.alloc (.cells #[.int .i64 x.f0, .int .u64 x.f1, .int .u64 x.f2, .int .u64 x.f3, .int .u64 x.f4, .slice D5x x.f5.length g5x, .slice D6x x.f6.length g6x, .slice D7x x.f7.length g7x, .slice D8x x.f8.length g8x] 53)).cell i; have hya := fun i => (Y.out.alloc (.cells #[.int .i64 x.f0, .int .u64 x.f1, .int .u64 x.f2, .int .u64 x.f3, .int .u64 x.f4, .slice D5x x.f5.length g5x, .slice D6x x.f6.length g6x, .slice D7x x.f7.length g7x, .slice D8x x.f8.length g8x] 53)).cell i; clear hh hb))
      (try clear hxa hya)
      have hal := below_alloc (Below.refl W3.heap.size W3) (.cells #[.int .i64 x.f0, .int .u64 x.f1, .int .u64 x.f2, .int .u64 x.f3, .int .u64 x.f4, .slice D5x x.f5.length g5x, .slice D6x x.f6.length g6x, .slice D7x x.f7.length g7x, .slice D8x x.f8.length g8x] 53)
      replace B := Aside0.mk (below_then B.out B.out.size hal)
      replace HA := Aside0.mk (HA.out.below hal)
      replace HB := Aside0.mk (HB.out.below hal)
      replace HX := Aside0.mk (HX.out.below hal)
      replace X := Aside0.mk (X.out.alloc (.cells #[.int .i64 x.f0, .int .u64 x.f1, .int .u64 x.f2, .int .u64 x.f3, .int .u64 x.f4, .slice D5x x.f5.length g5x, .slice D6x x.f6.length g6x, .slice D7x x.f7.length g7x, .slice D8x x.f8.length g8x] 53)); replace hx := fun i => X.out.cell i
      replace Y := Aside0.mk (Y.out.alloc (.cells #[.int .i64 x.f0, .int .u64 x.f1, .int .u64 x.f2, .int .u64 x.f3, .int .u64 x.f4, .slice D5x x.f5.length g5x, .slice D6x x.f6.length g6x, .slice D7x x.f7.length g7x, .slice D8x x.f8.length g8x] 53)); replace hy := fun i => Y.out.cell i
      have P := Aside0.mk (Blk.new W3 #[.int .i64 x.f0, .int .u64 x.f1, .int .u64 x.f2, .int .u64 x.f3, .int .u64 x.f4, .slice D5x x.f5.length g5x, .slice D6x x.f6.length g6x, .slice D7x x.f7.length g7x, .slice D8x x.f8.length g8x] 53); have hp := fun i => P.out.cell i; clear hal
      go_wp2_with (first | (go_at_call 25; (with_reducible refine (F2.out _ _ HB.out).mono ?_); rintro e W4 ⟨D5y, g5y, D6y, g6y, D7y, g7y, D8y, g8y, rfl, hh, hb⟩; replace B := Aside0.mk (below_then B.out B.out.size hb); replace HA := Aside0.mk (HA.out.below hb); replace HB := Aside0.mk (HB.out.below hb); replace HX := Aside0.mk (HX.out.below hb); replace X := Aside0.mk (X.out.below hb); replace hx := fun i => X.out.cell i; replace Y := Aside0.mk (Y.out.below hb); replace hy := fun i => Y.out.cell i; replace P := Aside0.mk (P.out.below hb); replace hp := fun i => P.out.cell i; have HY := Aside0.mk hh; have hxa := fun i => (X.out.alloc (.cells #[.int .i64 y.f0, .int .u64 y.f1, .int .u64 y.f2, .int .u64 y.f3, .int .u64 y.f4, .slice D5y y.f5.length g5y, .slice D6y y.f6.length g6y, .slice D7y y.f7.length g7y, .slice D8y y.f8.length g8y] 53)).cell i; have hya := fun i => (Y.out.alloc (.cells #[.int .i64 y.f0, .int .u64 y.f1, .int .u64 y.f2, .int .u64 y.f3, .int .u64 y.f4, .slice D5y y.f5.length g5y, .slice D6y y.f6.length g6y, .slice D7y y.f7.length g7y, .slice D8y y.f8.length g8y] 53)).cell i; have hpa := fun i => (P.out.alloc (.cells #[.int .i64 y.f0, .int .u64 y.f1, .int .u64 y.f2, .int .u64 y.f3, .int .u64 y.f4, .slice D5y y.f5.length g5y, .slice D6y y.f6.length g6y, .slice D7y y.f7.length g7y, .slice D8y y.f8.length g8y] 53)).cell i; clear hh hb))
      (try clear hxa hya hpa)
      have hal := below_alloc (Below.refl W4.heap.size W4) (.cells #[.int .i64 y.f0, .int .u64 y.f1, .int .u64 y.f2, .int .u64 y.f3, .int .u64 y.f4, .slice D5y y.f5.length g5y, .slice D6y y.f6.length g6y, .slice D7y y.f7.length g7y, .slice D8y y.f8.length g8y] 53)
      replace B := Aside0.mk (below_then B.out B.out.size hal)
      replace HA := Aside0.mk (HA.out.below hal)
      replace HB := Aside0.mk (HB.out.below hal)
      replace HX := Aside0.mk (HX.out.below hal)
      replace HY := Aside0.mk (HY.out.below hal)
      replace X := Aside0.mk (X.out.alloc (.cells #[.int .i64 y.f0, .int .u64 y.f1, .int .u64 y.f2, .int .u64 y.f3, .int .u64 y.f4, .slice D5y y.f5.length g5y, .slice D6y y.f6.length g6y, .slice D7y y.f7.length g7y, .slice D8y y.f8.length g8y] 53)); replace hx := fun i => X.out.cell i
      replace Y := Aside0.mk (Y.out.alloc (.cells #[.int .i64 y.f0, .int .u64 y.f1, .int .u64 y.f2, .int .u64 y.f3, .int .u64 y.f4, .slice D5y y.f5.length g5y, .slice D6y y.f6.length g6y, .slice D7y y.f7.length g7y, .slice D8y y.f8.length g8y] 53)); replace hy := fun i => Y.out.cell i
      replace P := Aside0.mk (P.out.alloc (.cells #[.int .i64 y.f0, .int .u64 y.f1, .int .u64 y.f2, .int .u64 y.f3, .int .u64 y.f4, .slice D5y y.f5.length g5y, .slice D6y y.f6.length g6y, .slice D7y y.f7.length g7y, .slice D8y y.f8.length g8y] 53)); replace hp := fun i => P.out.cell i
      have Q := Aside0.mk (Blk.new W4 #[.int .i64 y.f0, .int .u64 y.f1, .int .u64 y.f2, .int .u64 y.f3, .int .u64 y.f4, .slice D5y y.f5.length g5y, .slice D6y y.f6.length g6y, .slice D7y y.f7.length g7y, .slice D8y y.f8.length g8y] 53); have hq := fun i => Q.out.cell i; clear hal
      go_wp2_with (first | (go_at_call 26; (with_reducible refine (K1.out _ _ _ HA.out HB.out).mono ?_); rintro e W5 ⟨rfl, hb⟩; replace B := Aside0.mk (below_then B.out B.out.size hb); replace HA := Aside0.mk (HA.out.below hb); replace HB := Aside0.mk (HB.out.below hb); replace HX := Aside0.mk (HX.out.below hb); replace HY := Aside0.mk (HY.out.below hb); replace X := Aside0.mk (X.out.below hb); replace hx := fun i => X.out.cell i; replace Y := Aside0.mk (Y.out.below hb); replace hy := fun i => Y.out.cell i; replace P := Aside0.mk (P.out.below hb); replace hp := fun i => P.out.cell i; replace Q := Aside0.mk (Q.out.below hb); replace hq := fun i => Q.out.cell i; have hxa := fun i => (X.out.alloc (.cells #[.int .i64 v1, .int .i64 v2] 57)).cell i; have hya := fun i => (Y.out.alloc (.cells #[.int .i64 v1, .int .i64 v2] 57)).cell i; have hpa := fun i => (P.out.alloc (.cells #[.int .i64 v1, .int .i64 v2] 57)).cell i; have hqa := fun i => (Q.out.alloc (.cells #[.int .i64 v1, .int .i64 v2] 57)).cell i; clear  hb))
      (try clear hxa hya hpa hqa)
      have hal := below_alloc (Below.refl W5.heap.size W5) (.cells #[.int .i64 v1, .int .i64 v2] 57)
      replace B := Aside0.mk (below_then B.out B.out.size hal)
      replace HA := Aside0.mk (HA.out.below hal)
      replace HB := Aside0.mk (HB.out.below hal)
      replace HX := Aside0.mk (HX.out.below hal)
      replace HY := Aside0.mk (HY.out.below hal)
      replace X := Aside0.mk (X.out.alloc (.cells #[.int .i64 v1, .int .i64 v2] 57)); replace hx := fun i => X.out.cell i
      replace Y := Aside0.mk (Y.out.alloc (.cells #[.int .i64 v1, .int .i64 v2] 57)); replace hy := fun i => Y.out.cell i
      replace P := Aside0.mk (P.out.alloc (.cells #[.int .i64 v1, .int .i64 v2] 57)); replace hp := fun i => P.out.cell i
      replace Q := Aside0.mk (Q.out.alloc (.cells #[.int .i64 v1, .int .i64 v2] 57)); replace hq := fun i => Q.out.cell i
      have U := Aside0.mk (Blk.new W5 #[.int .i64 v1, .int .i64 v2] 57); have hu := fun i => U.out.cell i; clear hal
      go_wp2_with (first | (go_at_call 27; (with_reducible refine (K2.out _ _ _ HX.out HY.out).mono ?_); rintro e W6 ⟨rfl, hb⟩; replace B := Aside0.mk (below_then B.out B.out.size hb); replace HA := Aside0.mk (HA.out.below hb); replace HB := Aside0.mk (HB.out.below hb); replace HX := Aside0.mk (HX.out.below hb); replace HY := Aside0.mk (HY.out.below hb); replace X := Aside0.mk (X.out.below hb); replace hx := fun i => X.out.cell i; replace Y := Aside0.mk (Y.out.below hb); replace hy := fun i => Y.out.cell i; replace P := Aside0.mk (P.out.below hb); replace hp := fun i => P.out.cell i; replace Q := Aside0.mk (Q.out.below hb); replace hq := fun i => Q.out.cell i; replace U := Aside0.mk (U.out.below hb); replace hu := fun i => U.out.cell i; have hxa := fun i => (X.out.alloc (.cells #[.int .i64 z1, .int .i64 z2] 57)).cell i; have hya := fun i => (Y.out.alloc (.cells #[.int .i64 z1, .int .i64 z2] 57)).cell i; have hpa := fun i => (P.out.alloc (.cells #[.int .i64 z1, .int .i64 z2] 57)).cell i; have hqa := fun i => (Q.out.alloc (.cells #[.int .i64 z1, .int .i64 z2] 57)).cell i; have hua := fun i => (U.out.alloc (.cells #[.int .i64 z1, .int .i64 z2] 57)).cell i; clear  hb))
      (try clear hxa hya hpa hqa hua)
      have hal := below_alloc (Below.refl W6.heap.size W6) (.cells #[.int .i64 z1, .int .i64 z2] 57)
      replace B := Aside0.mk (below_then B.out B.out.size hal)
      replace HA := Aside0.mk (HA.out.below hal)
      replace HB := Aside0.mk (HB.out.below hal)
      replace HX := Aside0.mk (HX.out.below hal)
      replace HY := Aside0.mk (HY.out.below hal)
      replace X := Aside0.mk (X.out.alloc (.cells #[.int .i64 z1, .int .i64 z2] 57)); replace hx := fun i => X.out.cell i
      replace Y := Aside0.mk (Y.out.alloc (.cells #[.int .i64 z1, .int .i64 z2] 57)); replace hy := fun i => Y.out.cell i
      replace P := Aside0.mk (P.out.alloc (.cells #[.int .i64 z1, .int .i64 z2] 57)); replace hp := fun i => P.out.cell i
      replace Q := Aside0.mk (Q.out.alloc (.cells #[.int .i64 z1, .int .i64 z2] 57)); replace hq := fun i => Q.out.cell i
      replace U := Aside0.mk (U.out.alloc (.cells #[.int .i64 z1, .int .i64 z2] 57)); replace hu := fun i => U.out.cell i
      have S := Aside0.mk (Blk.new W6 #[.int .i64 z1, .int .i64 z2] 57); have hs := fun i => S.out.cell i; clear hal
      go_wp2_with (first | (go_at_call 24; (with_reducible refine (awake11_c _).mono ?_); rintro e W7 ⟨rfl, hb⟩; replace B := Aside0.mk (below_then B.out B.out.size hb); replace HA := Aside0.mk (HA.out.below hb); replace HB := Aside0.mk (HB.out.below hb); replace HX := Aside0.mk (HX.out.below hb); replace HY := Aside0.mk (HY.out.below hb); replace X := Aside0.mk (X.out.below hb); replace hx := fun i => X.out.cell i; replace Y := Aside0.mk (Y.out.below hb); replace hy := fun i => Y.out.cell i; replace P := Aside0.mk (P.out.below hb); replace hp := fun i => P.out.cell i; replace Q := Aside0.mk (Q.out.below hb); replace hq := fun i => Q.out.cell i; replace U := Aside0.mk (U.out.below hb); replace hu := fun i => U.out.cell i; replace S := Aside0.mk (S.out.below hb); replace hs := fun i => S.out.cell i; clear  hb))
      go_ret
      exact ⟨rfl, B.out⟩
    · have d7 : (v1 == 0) = false := beq_eq_false_iff_ne.2 c5
      clear c5 dz
      obtain ⟨A5a, c5a, A6a, c6a, A7a, c7a, A8a, c8a, e, -⟩ := hua.open_
      subst e
      obtain ⟨A5b, c5b, A6b, c6b, A7b, c7b, A8b, c8b, e, -⟩ := hub.open_
      subst e
      have B := Aside0.mk (below_alloc (below_alloc (Below.refl w.heap.size w) (.cells #[.int .i64 a.f0, .int .u64 a.f1, .int .u64 a.f2, .int .u64 a.f3, .int .u64 a.f4, .slice A5a a.f5.length c5a, .slice A6a a.f6.length c6a, .slice A7a a.f7.length c7a, .slice A8a a.f8.length c8a] 26)) (.cells #[.int .i64 b.f0, .int .u64 b.f1, .int .u64 b.f2, .int .u64 b.f3, .int .u64 b.f4, .slice A5b b.f5.length c5b, .slice A6b b.f6.length c6b, .slice A7b b.f7.length c7b, .slice A8b b.f8.length c8b] 26))
      have X := Aside0.mk ((Blk.new w #[.int .i64 a.f0, .int .u64 a.f1, .int .u64 a.f2, .int .u64 a.f3, .int .u64 a.f4, .slice A5a a.f5.length c5a, .slice A6a a.f6.length c6a, .slice A7a a.f7.length c7a, .slice A8a a.f8.length c8a] 26).alloc (.cells #[.int .i64 b.f0, .int .u64 b.f1, .int .u64 b.f2, .int .u64 b.f3, .int .u64 b.f4, .slice A5b b.f5.length c5b, .slice A6b b.f6.length c6b, .slice A7b b.f7.length c7b, .slice A8b b.f8.length c8b] 26))
      have hx := fun i => X.out.cell i
      have Y := Aside0.mk (show Blk ((w.alloc (.cells #[.int .i64 a.f0, .int .u64 a.f1, .int .u64 a.f2, .int .u64 a.f3, .int .u64 a.f4, .slice A5a a.f5.length c5a, .slice A6a a.f6.length c6a, .slice A7a a.f7.length c7a, .slice A8a a.f8.length c8a] 26)).alloc (.cells #[.int .i64 b.f0, .int .u64 b.f1, .int .u64 b.f2, .int .u64 b.f3, .int .u64 b.f4, .slice A5b b.f5.length c5b, .slice A6b b.f6.length c6b, .slice A7b b.f7.length c7b, .slice A8b b.f8.length c8b] 26)) (w.heap.size + 1) #[.int .i64 b.f0, .int .u64 b.f1, .int .u64 b.f2, .int .u64 b.f3, .int .u64 b.f4, .slice A5b b.f5.length c5b, .slice A6b b.f6.length c6b, .slice A7b b.f7.length c7b, .slice A8b b.f8.length c8b] 26 by have := Blk.new (w.alloc (.cells #[.int .i64 a.f0, .int .u64 a.f1, .int .u64 a.f2, .int .u64 a.f3, .int .u64 a.f4, .slice A5a a.f5.length c5a, .slice A6a a.f6.length c6a, .slice A7a a.f7.length c7a, .slice A8a a.f8.length c8a] 26)) #[.int .i64 b.f0, .int .u64 b.f1, .int .u64 b.f2, .int .u64 b.f3, .int .u64 b.f4, .slice A5b b.f5.length c5b, .slice A6b b.f6.length c6b, .slice A7b b.f7.length c7b, .slice A8b b.f8.length c8b] 26; simpa using this)
      have hy := fun i => Y.out.cell i
      have HA := Aside0.mk (hua.below B.out)
      have HB := Aside0.mk (hub.below B.out)
      clear hua hub
      go_enter Try.func5, Try.ntmps5
      go_wp2_with (first | (go_at_call 23; (with_reducible refine (CS.out _ _ HA.out).mono ?_); rintro e W1 ⟨rfl, hb⟩; replace B := Aside0.mk (below_then B.out B.out.size hb); replace HA := Aside0.mk (HA.out.below hb); replace HB := Aside0.mk (HB.out.below hb); replace X := Aside0.mk (X.out.below hb); replace hx := fun i => X.out.cell i; replace Y := Aside0.mk (Y.out.below hb); replace hy := fun i => Y.out.cell i; clear  hb) | (go_at_call 23; (with_reducible refine (CT.out _ _ HB.out).mono ?_); rintro e W2 ⟨rfl, hb⟩; replace B := Aside0.mk (below_then B.out B.out.size hb); replace HA := Aside0.mk (HA.out.below hb); replace HB := Aside0.mk (HB.out.below hb); replace X := Aside0.mk (X.out.below hb); replace hx := fun i => X.out.cell i; replace Y := Aside0.mk (Y.out.below hb); replace hy := fun i => Y.out.cell i; clear  hb) | (go_at_call 25; (with_reducible refine (F1.out _ _ HA.out).mono ?_); rintro e W3 ⟨D5x, g5x, D6x, g6x, D7x, g7x, D8x, g8x, rfl, hh, hb⟩; replace B := Aside0.mk (below_then B.out B.out.size hb); replace HA := Aside0.mk (HA.out.below hb); replace HB := Aside0.mk (HB.out.below hb); replace X := Aside0.mk (X.out.below hb); replace hx := fun i => X.out.cell i; replace Y := Aside0.mk (Y.out.below hb); replace hy := fun i => Y.out.cell i; have HX := Aside0.mk hh; have hxa := fun i => (X.out.alloc (.cells #[.int .i64 x.f0, .int .u64 x.f1, .int .u64 x.f2, .int .u64 x.f3, .int .u64 x.f4, .slice D5x x.f5.length g5x, .slice D6x x.f6.length g6x, .slice D7x x.f7.length g7x, .slice D8x x.f8.length g8x] 53)).cell i; have hya := fun i => (Y.out.alloc (.cells #[.int .i64 x.f0, .int .u64 x.f1, .int .u64 x.f2, .int .u64 x.f3, .int .u64 x.f4, .slice D5x x.f5.length g5x, .slice D6x x.f6.length g6x, .slice D7x x.f7.length g7x, .slice D8x x.f8.length g8x] 53)).cell i; clear hh hb))
      (try clear hxa hya)
      have hal := below_alloc (Below.refl W3.heap.size W3) (.cells #[.int .i64 x.f0, .int .u64 x.f1, .int .u64 x.f2, .int .u64 x.f3, .int .u64 x.f4, .slice D5x x.f5.length g5x, .slice D6x x.f6.length g6x, .slice D7x x.f7.length g7x, .slice D8x x.f8.length g8x] 53)
      replace B := Aside0.mk (below_then B.out B.out.size hal)
      replace HA := Aside0.mk (HA.out.below hal)
      replace HB := Aside0.mk (HB.out.below hal)
      replace HX := Aside0.mk (HX.out.below hal)
      replace X := Aside0.mk (X.out.alloc (.cells #[.int .i64 x.f0, .int .u64 x.f1, .int .u64 x.f2, .int .u64 x.f3, .int .u64 x.f4, .slice D5x x.f5.length g5x, .slice D6x x.f6.length g6x, .slice D7x x.f7.length g7x, .slice D8x x.f8.length g8x] 53)); replace hx := fun i => X.out.cell i
      replace Y := Aside0.mk (Y.out.alloc (.cells #[.int .i64 x.f0, .int .u64 x.f1, .int .u64 x.f2, .int .u64 x.f3, .int .u64 x.f4, .slice D5x x.f5.length g5x, .slice D6x x.f6.length g6x, .slice D7x x.f7.length g7x, .slice D8x x.f8.length g8x] 53)); replace hy := fun i => Y.out.cell i
      have P := Aside0.mk (Blk.new W3 #[.int .i64 x.f0, .int .u64 x.f1, .int .u64 x.f2, .int .u64 x.f3, .int .u64 x.f4, .slice D5x x.f5.length g5x, .slice D6x x.f6.length g6x, .slice D7x x.f7.length g7x, .slice D8x x.f8.length g8x] 53); have hp := fun i => P.out.cell i; clear hal
      go_wp2_with (first | (go_at_call 25; (with_reducible refine (F2.out _ _ HB.out).mono ?_); rintro e W4 ⟨D5y, g5y, D6y, g6y, D7y, g7y, D8y, g8y, rfl, hh, hb⟩; replace B := Aside0.mk (below_then B.out B.out.size hb); replace HA := Aside0.mk (HA.out.below hb); replace HB := Aside0.mk (HB.out.below hb); replace HX := Aside0.mk (HX.out.below hb); replace X := Aside0.mk (X.out.below hb); replace hx := fun i => X.out.cell i; replace Y := Aside0.mk (Y.out.below hb); replace hy := fun i => Y.out.cell i; replace P := Aside0.mk (P.out.below hb); replace hp := fun i => P.out.cell i; have HY := Aside0.mk hh; have hxa := fun i => (X.out.alloc (.cells #[.int .i64 y.f0, .int .u64 y.f1, .int .u64 y.f2, .int .u64 y.f3, .int .u64 y.f4, .slice D5y y.f5.length g5y, .slice D6y y.f6.length g6y, .slice D7y y.f7.length g7y, .slice D8y y.f8.length g8y] 53)).cell i; have hya := fun i => (Y.out.alloc (.cells #[.int .i64 y.f0, .int .u64 y.f1, .int .u64 y.f2, .int .u64 y.f3, .int .u64 y.f4, .slice D5y y.f5.length g5y, .slice D6y y.f6.length g6y, .slice D7y y.f7.length g7y, .slice D8y y.f8.length g8y] 53)).cell i; have hpa := fun i => (P.out.alloc (.cells #[.int .i64 y.f0, .int .u64 y.f1, .int .u64 y.f2, .int .u64 y.f3, .int .u64 y.f4, .slice D5y y.f5.length g5y, .slice D6y y.f6.length g6y, .slice D7y y.f7.length g7y, .slice D8y y.f8.length g8y] 53)).cell i; clear hh hb))
      (try clear hxa hya hpa)
      have hal := below_alloc (Below.refl W4.heap.size W4) (.cells #[.int .i64 y.f0, .int .u64 y.f1, .int .u64 y.f2, .int .u64 y.f3, .int .u64 y.f4, .slice D5y y.f5.length g5y, .slice D6y y.f6.length g6y, .slice D7y y.f7.length g7y, .slice D8y y.f8.length g8y] 53)
      replace B := Aside0.mk (below_then B.out B.out.size hal)
      replace HA := Aside0.mk (HA.out.below hal)
      replace HB := Aside0.mk (HB.out.below hal)
      replace HX := Aside0.mk (HX.out.below hal)
      replace HY := Aside0.mk (HY.out.below hal)
      replace X := Aside0.mk (X.out.alloc (.cells #[.int .i64 y.f0, .int .u64 y.f1, .int .u64 y.f2, .int .u64 y.f3, .int .u64 y.f4, .slice D5y y.f5.length g5y, .slice D6y y.f6.length g6y, .slice D7y y.f7.length g7y, .slice D8y y.f8.length g8y] 53)); replace hx := fun i => X.out.cell i
      replace Y := Aside0.mk (Y.out.alloc (.cells #[.int .i64 y.f0, .int .u64 y.f1, .int .u64 y.f2, .int .u64 y.f3, .int .u64 y.f4, .slice D5y y.f5.length g5y, .slice D6y y.f6.length g6y, .slice D7y y.f7.length g7y, .slice D8y y.f8.length g8y] 53)); replace hy := fun i => Y.out.cell i
      replace P := Aside0.mk (P.out.alloc (.cells #[.int .i64 y.f0, .int .u64 y.f1, .int .u64 y.f2, .int .u64 y.f3, .int .u64 y.f4, .slice D5y y.f5.length g5y, .slice D6y y.f6.length g6y, .slice D7y y.f7.length g7y, .slice D8y y.f8.length g8y] 53)); replace hp := fun i => P.out.cell i
      have Q := Aside0.mk (Blk.new W4 #[.int .i64 y.f0, .int .u64 y.f1, .int .u64 y.f2, .int .u64 y.f3, .int .u64 y.f4, .slice D5y y.f5.length g5y, .slice D6y y.f6.length g6y, .slice D7y y.f7.length g7y, .slice D8y y.f8.length g8y] 53); have hq := fun i => Q.out.cell i; clear hal
      go_wp2_with (first | (go_at_call 26; (with_reducible refine (K1.out _ _ _ HA.out HB.out).mono ?_); rintro e W5 ⟨rfl, hb⟩; replace B := Aside0.mk (below_then B.out B.out.size hb); replace HA := Aside0.mk (HA.out.below hb); replace HB := Aside0.mk (HB.out.below hb); replace HX := Aside0.mk (HX.out.below hb); replace HY := Aside0.mk (HY.out.below hb); replace X := Aside0.mk (X.out.below hb); replace hx := fun i => X.out.cell i; replace Y := Aside0.mk (Y.out.below hb); replace hy := fun i => Y.out.cell i; replace P := Aside0.mk (P.out.below hb); replace hp := fun i => P.out.cell i; replace Q := Aside0.mk (Q.out.below hb); replace hq := fun i => Q.out.cell i; have hxa := fun i => (X.out.alloc (.cells #[.int .i64 v1, .int .i64 v2] 57)).cell i; have hya := fun i => (Y.out.alloc (.cells #[.int .i64 v1, .int .i64 v2] 57)).cell i; have hpa := fun i => (P.out.alloc (.cells #[.int .i64 v1, .int .i64 v2] 57)).cell i; have hqa := fun i => (Q.out.alloc (.cells #[.int .i64 v1, .int .i64 v2] 57)).cell i; clear  hb))
      (try clear hxa hya hpa hqa)
      have hal := below_alloc (Below.refl W5.heap.size W5) (.cells #[.int .i64 v1, .int .i64 v2] 57)
      replace B := Aside0.mk (below_then B.out B.out.size hal)
      replace HA := Aside0.mk (HA.out.below hal)
      replace HB := Aside0.mk (HB.out.below hal)
      replace HX := Aside0.mk (HX.out.below hal)
      replace HY := Aside0.mk (HY.out.below hal)
      replace X := Aside0.mk (X.out.alloc (.cells #[.int .i64 v1, .int .i64 v2] 57)); replace hx := fun i => X.out.cell i
      replace Y := Aside0.mk (Y.out.alloc (.cells #[.int .i64 v1, .int .i64 v2] 57)); replace hy := fun i => Y.out.cell i
      replace P := Aside0.mk (P.out.alloc (.cells #[.int .i64 v1, .int .i64 v2] 57)); replace hp := fun i => P.out.cell i
      replace Q := Aside0.mk (Q.out.alloc (.cells #[.int .i64 v1, .int .i64 v2] 57)); replace hq := fun i => Q.out.cell i
      have U := Aside0.mk (Blk.new W5 #[.int .i64 v1, .int .i64 v2] 57); have hu := fun i => U.out.cell i; clear hal
      go_wp2_with (first | (go_at_call 27; (with_reducible refine (K2.out _ _ _ HX.out HY.out).mono ?_); rintro e W6 ⟨rfl, hb⟩; replace B := Aside0.mk (below_then B.out B.out.size hb); replace HA := Aside0.mk (HA.out.below hb); replace HB := Aside0.mk (HB.out.below hb); replace HX := Aside0.mk (HX.out.below hb); replace HY := Aside0.mk (HY.out.below hb); replace X := Aside0.mk (X.out.below hb); replace hx := fun i => X.out.cell i; replace Y := Aside0.mk (Y.out.below hb); replace hy := fun i => Y.out.cell i; replace P := Aside0.mk (P.out.below hb); replace hp := fun i => P.out.cell i; replace Q := Aside0.mk (Q.out.below hb); replace hq := fun i => Q.out.cell i; replace U := Aside0.mk (U.out.below hb); replace hu := fun i => U.out.cell i; have hxa := fun i => (X.out.alloc (.cells #[.int .i64 z1, .int .i64 z2] 57)).cell i; have hya := fun i => (Y.out.alloc (.cells #[.int .i64 z1, .int .i64 z2] 57)).cell i; have hpa := fun i => (P.out.alloc (.cells #[.int .i64 z1, .int .i64 z2] 57)).cell i; have hqa := fun i => (Q.out.alloc (.cells #[.int .i64 z1, .int .i64 z2] 57)).cell i; have hua := fun i => (U.out.alloc (.cells #[.int .i64 z1, .int .i64 z2] 57)).cell i; clear  hb))
      (try clear hxa hya hpa hqa hua)
      have hal := below_alloc (Below.refl W6.heap.size W6) (.cells #[.int .i64 z1, .int .i64 z2] 57)
      replace B := Aside0.mk (below_then B.out B.out.size hal)
      replace HA := Aside0.mk (HA.out.below hal)
      replace HB := Aside0.mk (HB.out.below hal)
      replace HX := Aside0.mk (HX.out.below hal)
      replace HY := Aside0.mk (HY.out.below hal)
      replace X := Aside0.mk (X.out.alloc (.cells #[.int .i64 z1, .int .i64 z2] 57)); replace hx := fun i => X.out.cell i
      replace Y := Aside0.mk (Y.out.alloc (.cells #[.int .i64 z1, .int .i64 z2] 57)); replace hy := fun i => Y.out.cell i
      replace P := Aside0.mk (P.out.alloc (.cells #[.int .i64 z1, .int .i64 z2] 57)); replace hp := fun i => P.out.cell i
      replace Q := Aside0.mk (Q.out.alloc (.cells #[.int .i64 z1, .int .i64 z2] 57)); replace hq := fun i => Q.out.cell i
      replace U := Aside0.mk (U.out.alloc (.cells #[.int .i64 z1, .int .i64 z2] 57)); replace hu := fun i => U.out.cell i
      have S := Aside0.mk (Blk.new W6 #[.int .i64 z1, .int .i64 z2] 57); have hs := fun i => S.out.cell i; clear hal
      go_wp2_with (first | (go_at_call 24; (with_reducible refine (awake11_c _).mono ?_); rintro e W7 ⟨rfl, hb⟩; replace B := Aside0.mk (below_then B.out B.out.size hb); replace HA := Aside0.mk (HA.out.below hb); replace HB := Aside0.mk (HB.out.below hb); replace HX := Aside0.mk (HX.out.below hb); replace HY := Aside0.mk (HY.out.below hb); replace X := Aside0.mk (X.out.below hb); replace hx := fun i => X.out.cell i; replace Y := Aside0.mk (Y.out.below hb); replace hy := fun i => Y.out.cell i; replace P := Aside0.mk (P.out.below hb); replace hp := fun i => P.out.cell i; replace Q := Aside0.mk (Q.out.below hb); replace hq := fun i => Q.out.cell i; replace U := Aside0.mk (U.out.below hb); replace hu := fun i => U.out.cell i; replace S := Aside0.mk (S.out.below hb); replace hs := fun i => S.out.cell i; clear  hb))
      go_ret
      exact ⟨rfl, B.out⟩
def tidepolelaw11_ResetBoth.f (s0 z0 zc0 ct0 sm0 : Int) (l0_5 l0_6 : List Sp) (l0_7 l0_8 : List Int) (s1 z1 zc1 ct1 sm1 : Int) (l1_5 l1_6 : List Sp) (l1_7 l1_8 : List Int) : Option Bool := if wfI ⟨s0, z0, zc0, ct0, sm0, l0_5, l0_6, l0_7, l0_8⟩ ∧ wfI ⟨s1, z1, zc1, ct1, sm1, l1_5, l1_6, l1_7, l1_8⟩ then some true else none
theorem tidepolelaw11_ResetBoth.calls (s0 : Int) (z0 : Int) (zc0 : Int) (ct0 : Int) (sm0 : Int) (A0_5 : Option Addr) (c0_5 : Nat) (l0_5 : List Sp) (A0_6 : Option Addr) (c0_6 : Nat) (l0_6 : List Sp) (A0_7 : Option Addr) (c0_7 : Nat) (l0_7 : List Int) (A0_8 : Option Addr) (c0_8 : Nat) (l0_8 : List Int) (s1 : Int) (z1 : Int) (zc1 : Int) (ct1 : Int) (sm1 : Int) (A1_5 : Option Addr) (c1_5 : Nat) (l1_5 : List Sp) (A1_6 : Option Addr) (c1_6 : Nat) (l1_6 : List Sp) (A1_7 : Option Addr) (c1_7 : Nat) (l1_7 : List Int) (A1_8 : Option Addr) (c1_8 : Nat) (l1_8 : List Int) (r : Bool) (w : World) (hr0_5 : Kd.C kSp w A0_5 l0_5.length l0_5) (hc0_5 : l0_5.length ≤ c0_5) (hr0_6 : Kd.C kSp w A0_6 l0_6.length l0_6) (hc0_6 : l0_6.length ≤ c0_6) (hr0_7 : Kd.C (Kd.int .i64) w A0_7 l0_7.length l0_7) (hc0_7 : l0_7.length ≤ c0_7) (hr0_8 : Kd.C (Kd.int .i64) w A0_8 l0_8.length l0_8) (hc0_8 : l0_8.length ≤ c0_8) (hr1_5 : Kd.C kSp w A1_5 l1_5.length l1_5) (hc1_5 : l1_5.length ≤ c1_5) (hr1_6 : Kd.C kSp w A1_6 l1_6.length l1_6) (hc1_6 : l1_6.length ≤ c1_6) (hr1_7 : Kd.C (Kd.int .i64) w A1_7 l1_7.length l1_7) (hc1_7 : l1_7.length ≤ c1_7) (hr1_8 : Kd.C (Kd.int .i64) w A1_8 l1_8.length l1_8) (hc1_8 : l1_8.length ≤ c1_8) (h : tidepolelaw11_ResetBoth.f s0 z0 zc0 ct0 sm0 l0_5 l0_6 l0_7 l0_8 s1 z1 zc1 ct1 sm1 l1_5 l1_6 l1_7 l1_8 = some r) :
    Calls Try.prog 5 #[.agg #[.int .i64 s0, .int .u64 z0, .int .u64 zc0, .int .u64 ct0, .int .u64 sm0, .slice A0_5 l0_5.length c0_5, .slice A0_6 l0_6.length c0_6, .slice A0_7 l0_7.length c0_7, .slice A0_8 l0_8.length c0_8], .agg #[.int .i64 s1, .int .u64 z1, .int .u64 zc1, .int .u64 ct1, .int .u64 sm1, .slice A1_5 l1_5.length c1_5, .slice A1_6 l1_6.length c1_6, .slice A1_7 l1_7.length c1_7, .slice A1_8 l1_8.length c1_8]] w fun e w' => e = .returned (.bool r) ∧ Below w.heap.size w w' := by
  obtain ⟨⟨q0, q1⟩, rfl⟩ := of_ite_some h
  exact resetBoth_c _ _ q0 q1 w _ _ (HI.mk (h := ⟨s0, z0, zc0, ct0, sm0, l0_5, l0_6, l0_7, l0_8⟩) (.of hr0_5 hc0_5) (.of hr0_6 hc0_6) (.of hr0_7 hc0_7) (.of hr0_8 hc0_8)) (HI.mk (h := ⟨s1, z1, zc1, ct1, sm1, l1_5, l1_6, l1_7, l1_8⟩) (.of hr1_5 hc1_5) (.of hr1_6 hc1_6) (.of hr1_7 hc1_7) (.of hr1_8 hc1_8))
end Go.Proofs.Ytefiabakfpfbaaa.P
namespace Go.Proofs.Ytefiabakfpfbaaa.P
def headSigns : List Char := List.map Char.ofNat [104, 97, 114, 110, 101, 115, 115, 32, 53, 102, 52, 56, 50, 51, 99, 55, 53, 49, 101, 54, 50, 51, 53, 101, 49, 99, 100, 100, 57, 54, 99, 100, 52, 54, 48, 48, 53, 55, 100, 98, 49, 55, 102, 100, 52, 50, 55, 54, 98, 57, 55, 49, 101, 49, 57, 50, 56, 101, 99, 100, 99, 101, 55, 53, 102, 54, 53, 49, 56, 54, 98, 98, 32, 99, 117, 116, 32, 97, 116, 32, 116, 105, 100, 101, 112, 111, 108, 101, 47, 116, 105, 100, 101, 112, 111, 108, 101, 108, 97, 119, 50, 57, 46, 82, 97, 110, 107, 81, 117, 97, 110, 116, 105, 108, 101, 115, 32, 116, 105, 100, 101, 112, 111, 108, 101, 47, 116, 105, 100, 101, 112, 111, 108, 101, 108, 97, 119, 49, 48, 46, 70, 104, 105, 115, 116, 70, 108, 111, 97, 116, 115, 32, 116, 105, 100, 101, 112, 111, 108, 101, 47, 116, 105, 100, 101, 112, 111, 108, 101, 108, 97, 119, 49, 49, 46, 82, 101, 115, 101, 116, 66, 111, 116, 104, 32, 116, 105, 100, 101, 112, 111, 108, 101, 47, 116, 105, 100, 101, 112, 111, 108, 101, 108, 97, 119, 48, 57, 46, 72, 105, 115, 116, 87, 97, 108, 107, 115, 32, 116, 105, 100, 101, 112, 111, 108, 101, 47, 116, 105, 100, 101, 112, 111, 108, 101, 108, 97, 119, 49, 48, 46, 70, 104, 105, 115, 116, 66, 97, 99, 107, 32, 116, 105, 100, 101, 112, 111, 108, 101, 47, 116, 105, 100, 101, 112, 111, 108, 101, 108, 97, 119, 49, 48, 46, 70, 104, 105, 115, 116, 70, 114, 111, 109]
theorem head_is : Try.prog.initOrder = String.ofList headSigns := by kernel_rfl
theorem head_signs : Try.prog.initOrder.toList = headSigns := by rw [head_is]; exact String.toList_ofList
theorem head_first : (behindMainWord (wordsSigns headSigns)).head? = some "cut".toList := by kernel_rfl
theorem head_words : ∃ r, behindMainWord (wordsSigns headSigns) = "cut".toList :: r := by have h := head_first; cases h2 : behindMainWord (wordsSigns headSigns) with | nil => rw [h2] at h; cases h | cons c r => rw [h2] at h; injection h with h; exact ⟨r, by rw [h]⟩
theorem strip_cut (r : List (List Char)) : stripLifts liftWords ("cut".toList :: r) = ([], "cut".toList :: r) := by kernel_rfl
theorem head_lifts : Try.prog.headLifts = [] := by obtain ⟨r, hr⟩ := head_words; unfold Program.headLifts; rw [head_signs, hr, strip_cut]; kernel_rfl
theorem head_doorFits : Try.prog.doorFits [] = true := by kernel_rfl
theorem head_laysLater : Try.prog.laysLater = false := by kernel_rfl
theorem head_bearsReflect : Try.prog.bearsReflect = false := by kernel_rfl
theorem mayEnter_of {P : Program} {L : List Char} {r : List (List Char)} (h1 : P.initOrder.toList = L) (h2 : behindMainWord (wordsSigns L) = "cut".toList :: r) (h3 : P.doorFits [] = true) (h4 : P.laysLater = false) (h5 : P.bearsReflect = false) : P.mayEnter = true := by unfold Program.mayEnter; rw [h1, h2]; simp only [strip_cut, h3, h4, h5]; kernel_rfl
theorem head_mayEnter : Try.prog.mayEnter = true := by obtain ⟨r, hr⟩ := head_words; exact mayEnter_of head_signs hr head_doorFits head_laysLater head_bearsReflect
theorem head_liftsFinal : Try.prog.liftsFinal = false := by obtain ⟨r, hr⟩ := head_words; unfold Program.liftsFinal; rw [head_signs, head_lifts, hr]; kernel_rfl
theorem make_of {P : Program} {L : List Char} {r : List (List Char)} (h1 : P.initOrder.toList = L) (h2 : behindMainWord (wordsSigns L) = "cut".toList :: r) : P.make = some .cut := by unfold Program.make; rw [h1, h2]; kernel_rfl
theorem head_make : Try.prog.make = some .cut := by obtain ⟨r, hr⟩ := head_words; exact make_of head_signs hr
theorem head_laidOut : laidOutB Try.prog = true := by kernel_rfl
theorem head_mapsRowed : mapsRowed Try.prog = true := by kernel_rfl
theorem head_stops : (Try.prog.stops == []) = true := by kernel_rfl
theorem head_stopKnobs : (Try.prog.stopKnobs == []) = true := by kernel_rfl
theorem head_plainKeys : Try.prog.plainKeys = true := by kernel_rfl
theorem head_stopsHeard : Try.prog.stopsHeard = true := by kernel_rfl
end Go.Proofs.Ytefiabakfpfbaaa.P
namespace Go.Proofs.Ytefiabakfpfbaaa.Pure
open Go.RowKit Go.Proofs.Ytefiabakfpfbaaa.P Go.Proofs.YtefiabakfpfbaaaW.PrintWords
theorem ResetBoth : ∀ (x0 : S26) (x1 : S26), wf26 x0 → wf26 x1 → tidepolelaw11_ResetBoth.f x0.f0 x0.f1 x0.f2 x0.f3 x0.f4 x0.f5 x0.f6 x0.f7 x0.f8 x1.f0 x1.f1 x1.f2 x1.f3 x1.f4 x1.f5 x1.f6 x1.f7 x1.f8 = some true := fun _ _ h0 h1 => if_pos ⟨wfI_of h0, wfI_of h1⟩
end Go.Proofs.Ytefiabakfpfbaaa.Pure
namespace Go.Proofs.Ytefiabakfpfbaaa.resetBoth
open Go.ChangeShapes Go.WideShapes Go.ChangeAt Go.RowKit Go.Proofs.Ytefiabakfpfbaaa.P Go.Proofs.YtefiabakfpfbaaaW.PrintWords
theorem own : ownKnob Try.prog.godebug = none := by kernel_rfl
theorem laidOut : laidOutB Try.prog = true := by kernel_rfl
set_option maxRecDepth 100000 in
set_option maxHeartbeats 4000000 in
theorem lifted (os : Os) (started : os.Started) (H : Type) (enc : TypeId × Value → H) :
    ReturnsInHanded {} Try.checked os 5 .any (Rows.resetBothSpec.pre6 enc Try.prog Try.f5 Rows.resetBothRow.domain false) (Rows.resetBothSpec.post enc Try.prog Try.f5 false true false false) := by
  refine returnsInHanded_of_change_sized (C := Try.checked) own started (by kernel_rfl) Try.func5
    (ChangeSpec.witness6 (enc := enc) (C := Try.checked) false ⟨#[], #[.agg #[.int .i64 0, .int .u64 0, .int .u64 0, .int .u64 0, .int .u64 0, .slice none 0 0, .slice none 0 0, .slice none 0 0, .slice none 0 0], .agg #[.int .i64 0, .int .u64 0, .int .u64 0, .int .u64 0, .int .u64 0, .slice none 0 0, .slice none 0 0, .slice none 0 0, .slice none 0 0]], []⟩ 8 (by kernel_rfl) (by kernel_rfl) (by kernel_rfl) (by kernel_rfl)) ?_
  intro W base args ds gs before hval0 hW hcnd hsz0 _
  have hval : ∀ (j : Nat) t v, Try.f5.params[j]? = some t → args[j]? = some v → Value.okWide Try.prog W .any base t v := hval0
  have hW' := hW
  obtain ⟨p, q, hA0, hV, rfl, hfz, hnd⟩ := hW
  have hA : DataW.TrodAll enc Try.prog W 0 (fun _ => true) true Try.f5.params.toList args.toList ds p := hA0
  rw [Try.params5] at hA hval
  obtain ⟨v0, vs0, d0, ds0, p0, q0, hargs, rfl, rfl, h0, r0⟩ := trodAll_cons hA
  obtain ⟨v1, vs1, d1, ds1, p1, q1, rfl, rfl, rfl, h1, r1⟩ := trodAll_cons r0
  obtain ⟨rfl, rfl, rfl⟩ := trodAll_nil r1
  obtain rfl : args = #[v0, v1] := by cases args; simp_all
  obtain ⟨rfl, rfl⟩ := trodVars_none hV
  have k0 := h0
  have lt0 : ∀ x ∈ p0, x.block < W.heap.size := by obtain ⟨m, hm⟩ := k0; exact DataW.trod_lt m _ _ _ hm
  obtain ⟨fu0, hf0⟩ := h0
  obtain ⟨x0, hK0, w0⟩ := opens26 enc W 0 _ true fu0 _ _ hf0
  obtain ⟨cs0, rfl, _⟩ := okWide_struct Try.underlying26 (hval 0 26 v0 rfl rfl)
  obtain ⟨A0_5, c0_5, A0_6, c0_6, A0_7, c0_7, A0_8, c0_8, he0, h0_5_l, hC0_5, h0_6_l, hC0_6, h0_7_l, hC0_7, h0_8_l, hC0_8⟩ := k26_open hK0
  obtain rfl : cs0 = #[.int .i64 x0.f0, .int .u64 x0.f1, .int .u64 x0.f2, .int .u64 x0.f3, .int .u64 x0.f4, .slice A0_5 x0.f5.length c0_5, .slice A0_6 x0.f6.length c0_6, .slice A0_7 x0.f7.length c0_7, .slice A0_8 x0.f8.length c0_8] := by
    have he : cs0.toList = _ := he0
    exact Array.toList_inj.1 he
  have k1 := h1
  have lt1 : ∀ x ∈ p1, x.block < W.heap.size := by obtain ⟨m, hm⟩ := k1; exact DataW.trod_lt m _ _ _ hm
  obtain ⟨fu1, hf1⟩ := h1
  obtain ⟨x1, hK1, w1⟩ := opens26 enc W 0 _ true fu1 _ _ hf1
  obtain ⟨cs1, rfl, _⟩ := okWide_struct Try.underlying26 (hval 1 26 v1 rfl rfl)
  obtain ⟨A1_5, c1_5, A1_6, c1_6, A1_7, c1_7, A1_8, c1_8, he1, h1_5_l, hC1_5, h1_6_l, hC1_6, h1_7_l, hC1_7, h1_8_l, hC1_8⟩ := k26_open hK1
  obtain rfl : cs1 = #[.int .i64 x1.f0, .int .u64 x1.f1, .int .u64 x1.f2, .int .u64 x1.f3, .int .u64 x1.f4, .slice A1_5 x1.f5.length c1_5, .slice A1_6 x1.f6.length c1_6, .slice A1_7 x1.f7.length c1_7, .slice A1_8 x1.f8.length c1_8] := by
    have he : cs1.toList = _ := he1
    exact Array.toList_inj.1 he
  clear hA0 hval0 hsz0
  obtain hk := Pure.ResetBoth x0 x1 w0 w1
  refine (P.tidepolelaw11_ResetBoth.calls x0.f0 x0.f1 x0.f2 x0.f3 x0.f4 A0_5 c0_5 x0.f5 A0_6 c0_6 x0.f6 A0_7 c0_7 x0.f7 A0_8 c0_8 x0.f8 x1.f0 x1.f1 x1.f2 x1.f3 x1.f4 A1_5 c1_5 x1.f5 A1_6 c1_6 x1.f6 A1_7 c1_7 x1.f7 A1_8 c1_8 x1.f8 true W hC0_5 h0_5_l hC0_6 h0_6_l hC0_7 h0_7_l hC0_8 h0_8_l hC1_5 h1_5_l hC1_6 h1_6_l hC1_7 h1_7_l hC1_8 h1_8_l hk).mono fun e W' ⟨he, bel⟩ => ?_
  subst he
  exact ⟨_, rfl, _, _, _, [], _, [], hW', trodAll_mk1 (shut_bool Try.underlying4 _), (trodAll_cons_mk (Below.trod laidOut (by kernel_rfl) (of_decide_eq_true (by kernel_rfl)) k0 bel lt0) (trodAll_cons_mk (Below.trod laidOut (by kernel_rfl) (of_decide_eq_true (by kernel_rfl)) k1 bel lt1) trodAll_mk0)), rfl, bel.frame _, fun h => by cases h⟩
theorem cf0 : (Rows.resetBothRow.wf (OpenSpec.ofChange Rows.resetBothSpec)) = true := by kernel_rfl
theorem cf1 : (laidOutB Try.prog) = true := P.head_laidOut
theorem cf2 : (mapsRowed Try.prog) = true := P.head_mapsRowed
theorem cf3 : (Try.f5.params.all (Try.prog.readableRec ·)) = true := by kernel_rfl
theorem cf4 : (namedTie Try.prog Rows.resetBothRow.named Rows.resetBothSpec.vars) = true := by kernel_rfl
theorem cf5 : ((Rows.resetBothRow.stops == [])) = true := by kernel_rfl
theorem cf6 : ((Try.prog.stops == [])) = true := P.head_stops
theorem cf7 : ((Rows.resetBothRow.knobs == [])) = true := by kernel_rfl
theorem cf8 : ((Try.prog.stopKnobs == [])) = true := P.head_stopKnobs
theorem cf9 : ((Rows.resetBothRow.inPlace == Try.prog.inPlace 5)) = true := by kernel_rfl
theorem cf10 : ((Rows.resetBothRow.unfollowed == Try.prog.unfollowed 5)) = true := by kernel_rfl
theorem cf11 : ((Rows.resetBothRow.recurses == Try.prog.recurses 5)) = true := by kernel_rfl
theorem cf12 : ((Rows.resetBothRow.named == Try.prog.varsNamed 5)) = true := by kernel_rfl
theorem cf13 : ((Rows.resetBothRow.maps == (Try.f5.params.toList ++ Rows.resetBothSpec.plain.varTypes Try.prog).any (Try.prog.mapsRec ·))) = true := by kernel_rfl
theorem cf14 : ((Rows.resetBothRow.ifaces == (Try.f5.params.toList ++ Rows.resetBothSpec.plain.varTypes Try.prog).any (Try.prog.ifacesRec ·))) = true := by kernel_rfl
theorem cf15 : ((Rows.resetBothRow.mapsOut == Try.prog.mapsAmong Try.f5.resultTypes.toList)) = true := by kernel_rfl
theorem cf16 : ((Rows.resetBothRow.loops == (Try.f5.params.toList ++ Rows.resetBothSpec.plain.varTypes Try.prog).any (Try.prog.loopsFrom ·))) = true := by kernel_rfl
theorem cf17 : ((Rows.resetBothRow.wideKeys == (Try.f5.params.toList ++ Rows.resetBothSpec.plain.varTypes Try.prog ++ Try.f5.resultTypes.toList).any (Try.prog.wideKeysFrom ·))) = true := by kernel_rfl
theorem cf18 : (Rows.resetBothSpec.vars.all (Try.prog.varReadable ·)) = true := by kernel_rfl
theorem cf19 : (Try.f5.resultTypes.all (fun t => Try.prog.readableRec t && decide (t < Try.prog.types.size))) = true := by kernel_rfl
theorem cf20 : ((Rows.resetBothRow.ifacesOut == Try.f5.resultTypes.toList.any (Try.prog.ifacesRec ·))) = true := by kernel_rfl
theorem cf21 : ((Rows.resetBothRow.loopsOut == Try.f5.resultTypes.toList.any (Try.prog.loopsFrom ·))) = true := by kernel_rfl
theorem cf22 : ((Rows.resetBothRow.plainKeys == Try.prog.plainKeys)) = true := by rw [P.head_plainKeys]; kernel_rfl
theorem cf23 : (Rows.resetBothRow.shortTexts.isNone) = true := by kernel_rfl
theorem cf24 : (Try.prog.stopsHeard) = true := P.head_stopsHeard
theorem cf25 : (Try.prog.mayEnter) = true := P.head_mayEnter
theorem cf26 : ((Rows.resetBothRow.lifted == Try.prog.liftsFinal)) = true := by rw [P.head_liftsFinal]; kernel_rfl
theorem cf27 : ((Try.prog.make == some Rows.resetBothRow.make)) = true := by rw [P.head_make]; kernel_rfl
theorem cf28 : ((Rows.resetBothRow.kinds == (if Rows.resetBothRow.domain.isEmpty then [] else Try.f5.params.toList.map fun t => match Try.prog.underlying t with | some (.int k) => some k | _ => none))) = true := by kernel_rfl
theorem cf29 : ((Rows.resetBothRow.pinned == Rows.resetBothRow.pinnedBy)) = true := by kernel_rfl
theorem cf30 : ((Rows.resetBothRow.veiled == (Try.f5.params.toList ++ Rows.resetBothSpec.plain.varTypes Try.prog ++ Try.f5.resultTypes.toList).any (Try.prog.veiledRec ·))) = true := by kernel_rfl
theorem cf31 : (Rows.resetBothRow.veiledFits Try.prog Try.f5.params.toList (Try.f5.params.toList ++ Rows.resetBothSpec.plain.varTypes Try.prog ++ Try.f5.resultTypes.toList)) = true := by kernel_rfl
theorem band_mk {a b : Bool} (h : a = true) (k : b = true) : (a && b) = true := by rw [h, k]; rfl
theorem closed : joinedFacts Try.prog 5 Try.f5 Rows.resetBothSpec Rows.resetBothRow = true := by unfold joinedFacts; exact (band_mk (band_mk (band_mk (band_mk (band_mk (band_mk (band_mk (band_mk (band_mk (band_mk (band_mk (band_mk (band_mk (band_mk (band_mk (band_mk (band_mk (band_mk (band_mk (band_mk (band_mk (band_mk (band_mk (band_mk (band_mk (band_mk (band_mk (band_mk (band_mk (band_mk (band_mk cf0 cf1) cf2) cf3) cf4) cf5) cf6) cf7) cf8) cf9) cf10) cf11) cf12) cf13) cf14) cf15) cf16) cf17) cf18) cf19) cf20) cf21) cf22) cf23) cf24) cf25) cf26) cf27) (by kernel_rfl)) cf29) cf30) cf31)
theorem over : Rows.resetBothRow.holds Try.pinned (OpenSpec.ofChange Rows.resetBothSpec) :=
  OpenClaim.holds_of_wide 5 Try.f5 rfl rfl rfl rfl rfl rfl rfl ⟨rfl, rfl, rfl, rfl, rfl⟩ rfl rfl rfl rfl rfl (by kernel_rfl) Try.func5 closed
    (of_decide_eq_true (by kernel_rfl)) (by unfold Func.isWrapper; first | (rw [if_pos (by decide +kernel)]; kernel_rfl) | (rw [if_neg (by decide +kernel)]; exact ⟨rfl, rfl⟩))
    (fun os started H enc _ => lifted os started H enc)
theorem proved : Rows.ResetBothSaid := over
#print axioms proved
end Go.Proofs.Ytefiabakfpfbaaa.resetBoth
namespace Go.Proofs.Ytefiabakfpfbaaa
theorem resetBoth_holds : Rows.ResetBothSaid := resetBoth.proved
end Go.Proofs.Ytefiabakfpfbaaa
