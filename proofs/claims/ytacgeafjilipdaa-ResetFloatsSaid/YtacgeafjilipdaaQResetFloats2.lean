/- ResetFloats: the part that this text bears of the proof that the statement answers true for every input. No condition. -/
import Derived.Test.YtacgeafjilipdaaProg
import Derived.Below
import Derived.Deep.Draws
import Derived.Deep.AppendLies
import Derived.Maps.AppendAt
import Derived.OwnWalk
import Derived.Laws.BytesArg
import Derived.Laws.MakeOwn
import Derived.Laws.OwnMore
import Derived.Deep.OwnRows
import Derived.Tactics
import Derived.Lib.ConvBytes
import Derived.Laws.Slices
import Derived.WalkKit
import Derived.KernelRfl
import Derived.RowKit3
import Derived.Deep.LoopGhost
import Derived.Deep.QuietTactic
import Derived.BigQuiet
import Derived.WideLaws
import Derived.Deep.DeepCutAuto
import Derived.Deep.CutBlock
import Derived.Deep.RegionHeld3
import Derived.Laws.Rows
import Derived.Lib.AppendStr
import Derived.ArgAppend
import Derived.Laws.IdiomCopy
import Derived.OrdersHeld
import Derived.Laws.BitsLemmas
import Derived.RowKit
import Derived.Deep.Slices
import Derived.ChangeArms
import Derived.Shelf.Abstract
import Derived.WalkSpells
import Derived.RangeFuncNested
import Derived.RangeFuncBound
import Derived.RangeFuncCalls
import Derived.RangeFuncLeaves
import Derived.RangeFuncBox
import Derived.OwnWalkIn
import Derived.TacticsInMore
import Derived.LoopNIn
import Derived.LoopIn
import Derived.Laws.Externs
import Derived.Shelf.Spec.BitsCarry
import Derived.RegionIn
import Derived.Sort.QuietTacIn
import Derived.Deep.RegionWith
import Derived.Laws.BitsAllLaws
import Derived.ProofKit
import Derived.JoinedOf
import Derived.OpenShut
import Derived.ShutString
import Derived.ChangeOld
import Derived.SizedLaws
import Derived.Test.YtacgeafjilipdaaQResetFloatsWWords
import Derived.Test.YtacgeafjilipdaaQResetFloatsWLast
import Derived.Test.YtacgeafjilipdaaQResetFloatsWTab
import Derived.Test.YtacgeafjilipdaaQResetFloatsWFour
import Derived.Test.YtacgeafjilipdaaQResetFloatsWQPut
import Derived.Test.YtacgeafjilipdaaQResetFloatsWApart
import Derived.Test.YtacgeafjilipdaaQResetFloatsWArr
import Derived.Test.YtacgeafjilipdaaQResetFloatsWZeros
import Derived.Test.YtacgeafjilipdaaQResetFloatsWFoot
import Derived.Test.YtacgeafjilipdaaQResetFloatsWKept
import Derived.Test.YtacgeafjilipdaaQResetFloatsWShare
import Derived.Test.YtacgeafjilipdaaQResetFloatsWN
import Derived.Test.YtacgeafjilipdaaQResetFloatsWFootNe
import Derived.Test.YtacgeafjilipdaaQResetFloatsWAt
import Derived.Test.YtacgeafjilipdaaQResetFloatsWEqStruct
import Derived.Test.YtacgeafjilipdaaQResetFloatsWRepsOne
import Derived.Test.YtacgeafjilipdaaQResetFloatsWInv
import Derived.Test.YtacgeafjilipdaaQResetFloatsWInvWords
import Derived.Test.YtacgeafjilipdaaQResetFloatsWGuard
import Derived.Test.YtacgeafjilipdaaQResetFloatsWNEv
import Derived.Test.YtacgeafjilipdaaQResetFloatsWMore
import Derived.Test.YtacgeafjilipdaaRows
import Derived.Test.YtacgeafjilipdaaQResetFloats0
import Derived.Test.YtacgeafjilipdaaQResetFloats1
namespace Go.Proofs.Ytacgeafjilipdaa.P
open Go.RowKit Go.Shelf Go.Proofs.YtacgeafjilipdaaW.PrintWords Go.Proofs.YtacgeafjilipdaaW.PrintLast Go.Proofs.YtacgeafjilipdaaW.PrintMore
set_option linter.unusedVariables false
set_option linter.unusedSimpArgs false
theorem lessF_c (a b : List Pu) (ha : Ups (fun q : Pu => q.f0) a) (hb : Ups (fun q : Pu => q.f0) b) (hm : a.length ≤ 4096) (w : World) (u v : Value) (hu : SI kPu w u a) (hv : SI kPu w v b) : Calls Try.prog 177 #[u, v] w fun e w' => e = .returned (.tuple #[.int .i64 (lessF a b).1, .bool (lessF a b).2]) ∧ Below w.heap.size w w' := by
  obtain ⟨A, c, rfl, hc, hr⟩ := hu
  obtain ⟨B, d, rfl, hd, hs⟩ := hv
  exact reset_less_uint64.calls (a.length * 5 + b.length + 2) A c a (fun k => k < w.heap.size) B d b (lessF a b).1 (lessF a b).2 w hr hc ⟨_, _, rfl, hd, Kd.C_F (show Kd.Heap k123 from Kd.heap_iso _ (Kd.heap_pair (Kd.heap_int .i64) (Kd.heap_int .u64))) hs⟩ (lessF_eq a b ha hb (by omega) _ (by omega))
set_option maxHeartbeats 4000000 in
set_option maxRecDepth 100000 in
theorem verdictF_c (why : Int) (a0 a1 b0 b1 : List Pu) (l0 : ∀ w u v, SI kPu w u a0 → SI kPu w v b0 → Calls Try.prog 177 #[u, v] w fun e w' => e = .returned (.tuple #[.int .i64 (lessF a0 b0).1, .bool (lessF a0 b0).2]) ∧ Below w.heap.size w w')
    (l1 : ∀ w u v, SI kPu w u a1 → SI kPu w v b1 → Calls Try.prog 177 #[u, v] w fun e w' => e = .returned (.tuple #[.int .i64 (lessF a1 b1).1, .bool (lessF a1 b1).2]) ∧ Below w.heap.size w w')
    (w : World) (u0 u1 v0 v1 : Value) (hu0 : SI kPu w u0 a0) (hu1 : SI kPu w u1 a1) (hv0 : SI kPu w v0 b0) (hv1 : SI kPu w v1 b1) : Calls Try.prog 143 #[.int .i64 why, .agg #[u0, u1], .agg #[v0, v1]] w fun e w' =>
    e = .returned (.agg #[.int .i64 (verdR why (lessF a0 b0) (lessF a1 b1)).1, .int .i64 (verdR why (lessF a0 b0) (lessF a1 b1)).2]) ∧ Below w.heap.size w w' := by
  have hua := Try.underlying168
  have huv := Try.underlying67
  generalize lessF a0 b0 = r0 at *
  generalize lessF a1 b1 = r1 at *
  obtain ⟨p, ok⟩ := r0
  obtain ⟨q, ok1⟩ := r1
  simp only at l0 l1
  have L0 := Aside0.mk l0
  have L1 := Aside0.mk l1
  clear l0 l1
  have hu0' := hu0; have hu1' := hu1; have hv0' := hv0; have hv1' := hv1
  obtain ⟨A0, c0, e0, -⟩ := hu0'; subst e0
  obtain ⟨A1, c1, e1, -⟩ := hu1'; subst e1
  obtain ⟨D0, d0, e2, -⟩ := hv0'; subst e2
  obtain ⟨D1, d1, e3, -⟩ := hv1'; subst e3
  have B := Aside0.mk (below_alloc (below_alloc (below_alloc (Below.refl w.heap.size w) (.cells #[.slice A0 a0.length c0, .slice A1 a1.length c1] 168)) (.cells #[.slice D0 b0.length d0, .slice D1 b1.length d1] 168)) (.cells #[.int .i64 0, .int .i64 0] 67))
  have X := Aside0.mk (((Blk.new w #[.slice A0 a0.length c0, .slice A1 a1.length c1] 168).alloc (.cells #[.slice D0 b0.length d0, .slice D1 b1.length d1] 168)).alloc (.cells #[.int .i64 0, .int .i64 0] 67))
  have Y := Aside0.mk ((Blk.at1 (w := w) (.cells #[.slice A0 a0.length c0, .slice A1 a1.length c1] 168) #[.slice D0 b0.length d0, .slice D1 b1.length d1] 168).alloc (.cells #[.int .i64 0, .int .i64 0] 67))
  have Z := Aside0.mk (show Blk (((w.alloc (.cells #[.slice A0 a0.length c0, .slice A1 a1.length c1] 168)).alloc (.cells #[.slice D0 b0.length d0, .slice D1 b1.length d1] 168)).alloc (.cells #[.int .i64 0, .int .i64 0] 67)) (w.heap.size + 1 + 1) #[.int .i64 0, .int .i64 0] 67 by have := Blk.new ((w.alloc (.cells #[.slice A0 a0.length c0, .slice A1 a1.length c1] 168)).alloc (.cells #[.slice D0 b0.length d0, .slice D1 b1.length d1] 168)) #[.int .i64 0, .int .i64 0] 67; simpa using this)
  have hx := fun i => X.out.cell i
  have hy := fun i => Y.out.cell i
  have hz := fun i => Z.out.cell i
  have zz := fun i => blk_frozen Z.out i
  have SA0 := Aside0.mk (hu0.below B.out)
  have SA1 := Aside0.mk (hu1.below B.out)
  have SB0 := Aside0.mk (hv0.below B.out)
  have SB1 := Aside0.mk (hv1.below B.out)
  clear hu0 hu1 hv0 hv1
  unfold verdR
  by_cases cw : why = 0
  rotate_left
  · rw [if_pos cw]
    have cw1 : (why != 0) = true := bne_iff_ne.2 cw
    clear cw
    go_enter Try.func143, Try.ntmps143
    go_wp2
    refine bodyPost_ret (results_cell_row rfl _ _ (w.heap.size + 1 + 1) 67 #[.int .i64 why, .int .i64 0] (0, 0) _ rfl (show Blk _ _ _ _ by have := Blk.new ((w.alloc (.cells #[.slice A0 a0.length c0, .slice A1 a1.length c1] 168)).alloc (.cells #[.slice D0 b0.length d0, .slice D1 b1.length d1] 168)) #[.int .i64 why, .int .i64 0] 67; simpa using this) Try.underlying67 rfl (by kernel_rfl)) rfl ?_
    exact ⟨rfl, below_alloc (below_alloc (below_alloc (Below.refl _ _) _) _) _⟩
  rw [if_neg (by simp [cw])]
  have cw1 : (why != 0) = false := by rw [cw]; rfl
  subst cw
  cases ok with
  | true =>
    simp only [if_true]
    go_enter Try.func143, Try.ntmps143
    go_wp2_with (first | (go_at_call 177; (with_reducible refine (L0.out _ _ _ SA0.out SB0.out).mono ?_); rintro e W1 ⟨rfl, hb⟩; replace B := Aside0.mk (below_then B.out B.out.size hb); replace SA0 := Aside0.mk (SA0.out.below hb); replace SA1 := Aside0.mk (SA1.out.below hb); replace SB0 := Aside0.mk (SB0.out.below hb); replace SB1 := Aside0.mk (SB1.out.below hb); replace X := Aside0.mk (X.out.below hb); replace hx := fun i => X.out.cell i; replace Y := Aside0.mk (Y.out.below hb); replace hy := fun i => Y.out.cell i; replace Z := Aside0.mk (Z.out.below hb); replace hz := fun i => Z.out.cell i; replace zz := fun i => blk_frozen Z.out i; clear  hb))
    refine bodyPost_ret (results_cell_row rfl _ _ (w.heap.size + 1 + 1) 67 #[_, _] (0, 0) _ rfl (blk_put (blk_put Z.out 0 _ rfl) 1 _ rfl) Try.underlying67 rfl (by kernel_rfl)) rfl ?_
    exact ⟨rfl, belowS B.out.size B.out (by omega)⟩
  | false =>
    cases ok1 with
    | true =>
      simp only [if_true, Bool.false_eq_true, if_false]
      go_enter Try.func143, Try.ntmps143
      go_wp2_with (first | (go_at_call 177; (with_reducible refine (L0.out _ _ _ SA0.out SB0.out).mono ?_); rintro e W1 ⟨rfl, hb⟩; replace B := Aside0.mk (below_then B.out B.out.size hb); replace SA0 := Aside0.mk (SA0.out.below hb); replace SA1 := Aside0.mk (SA1.out.below hb); replace SB0 := Aside0.mk (SB0.out.below hb); replace SB1 := Aside0.mk (SB1.out.below hb); replace X := Aside0.mk (X.out.below hb); replace hx := fun i => X.out.cell i; replace Y := Aside0.mk (Y.out.below hb); replace hy := fun i => Y.out.cell i; replace Z := Aside0.mk (Z.out.below hb); replace hz := fun i => Z.out.cell i; replace zz := fun i => blk_frozen Z.out i; clear  hb) | (go_at_call 177; (with_reducible refine (L1.out _ _ _ SA1.out SB1.out).mono ?_); rintro e W2 ⟨rfl, hb⟩; replace B := Aside0.mk (below_then B.out B.out.size hb); replace SA0 := Aside0.mk (SA0.out.below hb); replace SA1 := Aside0.mk (SA1.out.below hb); replace SB0 := Aside0.mk (SB0.out.below hb); replace SB1 := Aside0.mk (SB1.out.below hb); replace X := Aside0.mk (X.out.below hb); replace hx := fun i => X.out.cell i; replace Y := Aside0.mk (Y.out.below hb); replace hy := fun i => Y.out.cell i; replace Z := Aside0.mk (Z.out.below hb); replace hz := fun i => Z.out.cell i; replace zz := fun i => blk_frozen Z.out i; clear  hb))
      refine bodyPost_ret (results_cell_row rfl _ _ (w.heap.size + 1 + 1) 67 #[_, _] (0, 0) _ rfl (blk_put (blk_put Z.out 0 _ rfl) 1 _ rfl) Try.underlying67 rfl (by kernel_rfl)) rfl ?_
      exact ⟨rfl, belowS B.out.size B.out (by omega)⟩
    | false =>
      simp only [Bool.false_eq_true, if_false]
      go_enter Try.func143, Try.ntmps143
      go_wp2_with (first | (go_at_call 177; (with_reducible refine (L0.out _ _ _ SA0.out SB0.out).mono ?_); rintro e W1 ⟨rfl, hb⟩; replace B := Aside0.mk (below_then B.out B.out.size hb); replace SA0 := Aside0.mk (SA0.out.below hb); replace SA1 := Aside0.mk (SA1.out.below hb); replace SB0 := Aside0.mk (SB0.out.below hb); replace SB1 := Aside0.mk (SB1.out.below hb); replace X := Aside0.mk (X.out.below hb); replace hx := fun i => X.out.cell i; replace Y := Aside0.mk (Y.out.below hb); replace hy := fun i => Y.out.cell i; replace Z := Aside0.mk (Z.out.below hb); replace hz := fun i => Z.out.cell i; replace zz := fun i => blk_frozen Z.out i; clear  hb) | (go_at_call 177; (with_reducible refine (L1.out _ _ _ SA1.out SB1.out).mono ?_); rintro e W2 ⟨rfl, hb⟩; replace B := Aside0.mk (below_then B.out B.out.size hb); replace SA0 := Aside0.mk (SA0.out.below hb); replace SA1 := Aside0.mk (SA1.out.below hb); replace SB0 := Aside0.mk (SB0.out.below hb); replace SB1 := Aside0.mk (SB1.out.below hb); replace X := Aside0.mk (X.out.below hb); replace hx := fun i => X.out.cell i; replace Y := Aside0.mk (Y.out.below hb); replace hy := fun i => Y.out.cell i; replace Z := Aside0.mk (Z.out.below hb); replace hz := fun i => Z.out.cell i; replace zz := fun i => blk_frozen Z.out i; clear  hb))
      refine bodyPost_ret (results_cell_row rfl _ _ (w.heap.size + 1 + 1) 67 #[_, _] (0, 0) _ rfl (blk_put (blk_put Z.out 0 _ rfl) 1 _ rfl) Try.underlying67 rfl (by kernel_rfl)) rfl ?_
      exact ⟨rfl, belowS B.out.size B.out (by omega)⟩
theorem headsF_c (a b : Fh) (w : World) : Calls Try.prog 137 #[.agg #[.int .i64 a.f0, .int .u64 a.f1, .int .u64 a.f3, .int .u64 a.f2], .agg #[.int .i64 b.f0, .int .u64 b.f1, .int .u64 b.f3, .int .u64 b.f2]] w fun e w' => e = .returned (.int .i64 (headsF a b)) ∧ Below w.heap.size w w' :=
  reset_heads.calls _ _ _ _ _ _ _ _ _ w (heads_eq _ _ _ _ _ _ _ _)
set_option maxHeartbeats 16000000 in
set_option maxRecDepth 100000 in
theorem resetF_c (a b : Fh) (hwa : wfF a) (hwb : wfF b) (w : World) (u v : Value) (hu : GI w u a) (hv : GI w v b) : Calls Try.prog 62 #[u, v] w fun e w' =>
    e = .returned (.tuple #[.agg #[.int .i64 (floatsR a b).1.1, .int .i64 (floatsR a b).1.2], .int .i64 (floatsR a b).2]) ∧ Below w.heap.size w w' := by
  have hud := Try.underlying79
  have hua := Try.underlying168
  have huv := Try.underlying67
  have ka := sidesF_c a hwa
  have kb := sidesF_c b hwb
  have hd := headsF_c a b
  have ra := openF_row hwa
  have rb := openF_row hwb
  have vd := verdictF_c (headsF a b) (openF a).1 (openF a).2.1 (openF b).1 (openF b).2.1 (lessF_c _ _ ra.1.ups rb.1.ups ra.1.len) (lessF_c _ _ ra.2.ups rb.2.ups ra.2.len)
  unfold floatsR floatsV
  generalize verdR (headsF a b) (lessF (openF a).1 (openF b).1) (lessF (openF a).2.1 (openF b).2.1) = r at *
  obtain ⟨r1, r2⟩ := r
  generalize headsF a b = hd0 at *
  generalize (openF a).1 = x0 at *
  generalize (openF a).2.1 = x1 at *
  generalize (openF b).1 = y0 at *
  generalize (openF b).2.1 = y1 at *
  generalize checkF a = ea at *
  generalize checkF b = eb at *
  have KA := Aside0.mk ka
  have KB := Aside0.mk kb
  have HD := Aside0.mk hd
  have VD := Aside0.mk vd
  clear ka kb hd vd ra rb hwa hwb
  obtain ⟨A5a, c5a, A6a, c6a, A7a, c7a, A8a, c8a, e, -⟩ := hu.open_
  subst e
  obtain ⟨A5b, c5b, A6b, c6b, A7b, c7b, A8b, c8b, e, -⟩ := hv.open_
  subst e
  have B := Aside0.mk (below_alloc (below_alloc (below_alloc (Below.refl w.heap.size w) (.cells #[.int .i64 a.f0, .int .u64 a.f1, .int .u64 a.f2, .int .u64 a.f3, .int .u64 a.f4, .slice A5a a.f5.length c5a, .slice A6a a.f6.length c6a, .slice A7a a.f7.length c7a, .slice A8a a.f8.length c8a] 79)) (.cells #[.int .i64 b.f0, .int .u64 b.f1, .int .u64 b.f2, .int .u64 b.f3, .int .u64 b.f4, .slice A5b b.f5.length c5b, .slice A6b b.f6.length c6b, .slice A7b b.f7.length c7b, .slice A8b b.f8.length c8b] 79)) (.cells #[.int .i64 0, .int .i64 0] 67))
  have X := Aside0.mk (((Blk.new w #[.int .i64 a.f0, .int .u64 a.f1, .int .u64 a.f2, .int .u64 a.f3, .int .u64 a.f4, .slice A5a a.f5.length c5a, .slice A6a a.f6.length c6a, .slice A7a a.f7.length c7a, .slice A8a a.f8.length c8a] 79).alloc (.cells #[.int .i64 b.f0, .int .u64 b.f1, .int .u64 b.f2, .int .u64 b.f3, .int .u64 b.f4, .slice A5b b.f5.length c5b, .slice A6b b.f6.length c6b, .slice A7b b.f7.length c7b, .slice A8b b.f8.length c8b] 79)).alloc (.cells #[.int .i64 0, .int .i64 0] 67))
  have Y := Aside0.mk ((Blk.at1 (w := w) (.cells #[.int .i64 a.f0, .int .u64 a.f1, .int .u64 a.f2, .int .u64 a.f3, .int .u64 a.f4, .slice A5a a.f5.length c5a, .slice A6a a.f6.length c6a, .slice A7a a.f7.length c7a, .slice A8a a.f8.length c8a] 79) #[.int .i64 b.f0, .int .u64 b.f1, .int .u64 b.f2, .int .u64 b.f3, .int .u64 b.f4, .slice A5b b.f5.length c5b, .slice A6b b.f6.length c6b, .slice A7b b.f7.length c7b, .slice A8b b.f8.length c8b] 79).alloc (.cells #[.int .i64 0, .int .i64 0] 67))
  have Z := Aside0.mk (show Blk (((w.alloc (.cells #[.int .i64 a.f0, .int .u64 a.f1, .int .u64 a.f2, .int .u64 a.f3, .int .u64 a.f4, .slice A5a a.f5.length c5a, .slice A6a a.f6.length c6a, .slice A7a a.f7.length c7a, .slice A8a a.f8.length c8a] 79)).alloc (.cells #[.int .i64 b.f0, .int .u64 b.f1, .int .u64 b.f2, .int .u64 b.f3, .int .u64 b.f4, .slice A5b b.f5.length c5b, .slice A6b b.f6.length c6b, .slice A7b b.f7.length c7b, .slice A8b b.f8.length c8b] 79)).alloc (.cells #[.int .i64 0, .int .i64 0] 67)) (w.heap.size + 1 + 1) #[.int .i64 0, .int .i64 0] 67 by have := Blk.new ((w.alloc (.cells #[.int .i64 a.f0, .int .u64 a.f1, .int .u64 a.f2, .int .u64 a.f3, .int .u64 a.f4, .slice A5a a.f5.length c5a, .slice A6a a.f6.length c6a, .slice A7a a.f7.length c7a, .slice A8a a.f8.length c8a] 79)).alloc (.cells #[.int .i64 b.f0, .int .u64 b.f1, .int .u64 b.f2, .int .u64 b.f3, .int .u64 b.f4, .slice A5b b.f5.length c5b, .slice A6b b.f6.length c6b, .slice A7b b.f7.length c7b, .slice A8b b.f8.length c8b] 79)) #[.int .i64 0, .int .i64 0] 67; simpa using this)
  have hx := fun i => X.out.cell i
  have hy := fun i => Y.out.cell i
  have hz := fun i => Z.out.cell i
  have zz := fun i => blk_frozen Z.out i
  have HA := Aside0.mk (hu.below B.out)
  have HC := Aside0.mk (hv.below B.out)
  clear hu hv
  by_cases c1 : ea = 0
  rotate_left
  · rw [if_pos c1]
    have d1 : (ea != 0) = true := bne_iff_ne.2 c1
    clear c1
    go_enter Try.func62, Try.ntmps62
    go_wp2_with (first | (go_at_call 142; (with_reducible refine (KA.out _ _ HA.out).mono ?_); rintro e W1 ⟨v0, v1, rfl, h0, h1, hb⟩; replace B := Aside0.mk (below_then B.out B.out.size hb); replace HA := Aside0.mk (HA.out.below hb); replace HC := Aside0.mk (HC.out.below hb); replace X := Aside0.mk (X.out.below hb); replace hx := fun i => X.out.cell i; replace Y := Aside0.mk (Y.out.below hb); replace hy := fun i => Y.out.cell i; replace Z := Aside0.mk (Z.out.below hb); replace hz := fun i => Z.out.cell i; replace zz := fun i => blk_frozen Z.out i; have SA0 := Aside0.mk h0; have SA1 := Aside0.mk h1; have e0' := SA0.out; have e1' := SA1.out; obtain ⟨P0, q0, e0⟩ := e0'.slc; subst e0; obtain ⟨P1, q1, e1⟩ := e1'.slc; subst e1; have hsz1 := blk_lt Z.out; have hxa := fun i => (X.out.alloc (.cells #[.slice P0 x0.length q0, .slice P1 x1.length q1] 168)).cell i; have hya := fun i => (Y.out.alloc (.cells #[.slice P0 x0.length q0, .slice P1 x1.length q1] 168)).cell i; have hza := fun i => (Z.out.alloc (.cells #[.slice P0 x0.length q0, .slice P1 x1.length q1] 168)).cell i; clear h0 h1 hb; have zza := fun i => blk_frozen (Z.out.alloc (.cells #[.slice P0 x0.length q0, .slice P1 x1.length q1] 168)) i))
    refine bodyPost_ret (results_ct rfl _ _ (w.heap.size + 1 + 1) 67 #[_, _] (0, 0) _ rfl (Blk.alloc (show Blk _ _ _ _ from blk_put (blk_put Z.out 0 _ rfl) 1 _ rfl) _) Try.underlying67 rfl (by kernel_rfl)) rfl ?_
    exact ⟨rfl, below_alloc (belowS B.out.size B.out (by omega)) _⟩
  subst c1
  rw [if_neg (by simp)]
  by_cases c2 : eb = 0
  rotate_left
  · rw [if_pos c2]
    have d2 : (eb != 0) = true := bne_iff_ne.2 c2
    clear c2
    go_enter Try.func62, Try.ntmps62
    go_wp2_with (first | (go_at_call 142; (with_reducible refine (KA.out _ _ HA.out).mono ?_); rintro e W1 ⟨v0, v1, rfl, h0, h1, hb⟩; replace B := Aside0.mk (below_then B.out B.out.size hb); replace HA := Aside0.mk (HA.out.below hb); replace HC := Aside0.mk (HC.out.below hb); replace X := Aside0.mk (X.out.below hb); replace hx := fun i => X.out.cell i; replace Y := Aside0.mk (Y.out.below hb); replace hy := fun i => Y.out.cell i; replace Z := Aside0.mk (Z.out.below hb); replace hz := fun i => Z.out.cell i; replace zz := fun i => blk_frozen Z.out i; have SA0 := Aside0.mk h0; have SA1 := Aside0.mk h1; have e0' := SA0.out; have e1' := SA1.out; obtain ⟨P0, q0, e0⟩ := e0'.slc; subst e0; obtain ⟨P1, q1, e1⟩ := e1'.slc; subst e1; have hsz1 := blk_lt Z.out; have hxa := fun i => (X.out.alloc (.cells #[.slice P0 x0.length q0, .slice P1 x1.length q1] 168)).cell i; have hya := fun i => (Y.out.alloc (.cells #[.slice P0 x0.length q0, .slice P1 x1.length q1] 168)).cell i; have hza := fun i => (Z.out.alloc (.cells #[.slice P0 x0.length q0, .slice P1 x1.length q1] 168)).cell i; clear h0 h1 hb))
    (try clear hxa hya hza)
    have hal := below_alloc (Below.refl W1.heap.size W1) (.cells #[.slice P0 x0.length q0, .slice P1 x1.length q1] 168)
    replace B := Aside0.mk (below_then B.out B.out.size hal)
    replace HA := Aside0.mk (HA.out.below hal)
    replace HC := Aside0.mk (HC.out.below hal)
    replace SA0 := Aside0.mk (SA0.out.below hal)
    replace SA1 := Aside0.mk (SA1.out.below hal)
    replace X := Aside0.mk (X.out.alloc (.cells #[.slice P0 x0.length q0, .slice P1 x1.length q1] 168)); replace hx := fun i => X.out.cell i
    replace Y := Aside0.mk (Y.out.alloc (.cells #[.slice P0 x0.length q0, .slice P1 x1.length q1] 168)); replace hy := fun i => Y.out.cell i
    replace Z := Aside0.mk (Z.out.alloc (.cells #[.slice P0 x0.length q0, .slice P1 x1.length q1] 168)); replace hz := fun i => Z.out.cell i
    have U := Aside0.mk (Blk.new W1 #[.slice P0 x0.length q0, .slice P1 x1.length q1] 168); have hu := fun i => U.out.cell i; clear hal
    go_wp2_with (first | (go_at_call 142; (with_reducible refine (KB.out _ _ HC.out).mono ?_); rintro e W2 ⟨v2, v3, rfl, h0, h1, hb⟩; replace B := Aside0.mk (below_then B.out B.out.size hb); replace HA := Aside0.mk (HA.out.below hb); replace HC := Aside0.mk (HC.out.below hb); replace SA0 := Aside0.mk (SA0.out.below hb); replace SA1 := Aside0.mk (SA1.out.below hb); replace X := Aside0.mk (X.out.below hb); replace hx := fun i => X.out.cell i; replace Y := Aside0.mk (Y.out.below hb); replace hy := fun i => Y.out.cell i; replace Z := Aside0.mk (Z.out.below hb); replace hz := fun i => Z.out.cell i; replace zz := fun i => blk_frozen Z.out i; replace U := Aside0.mk (U.out.below hb); replace hu := fun i => U.out.cell i; have SB0 := Aside0.mk h0; have SB1 := Aside0.mk h1; have e0' := SB0.out; have e1' := SB1.out; obtain ⟨P2, q2, e0⟩ := e0'.slc; subst e0; obtain ⟨P3, q3, e1⟩ := e1'.slc; subst e1; have hsz2 := blk_lt Z.out; have hxa := fun i => (X.out.alloc (.cells #[.slice P2 y0.length q2, .slice P3 y1.length q3] 168)).cell i; have hya := fun i => (Y.out.alloc (.cells #[.slice P2 y0.length q2, .slice P3 y1.length q3] 168)).cell i; have hza := fun i => (Z.out.alloc (.cells #[.slice P2 y0.length q2, .slice P3 y1.length q3] 168)).cell i; have hua := fun i => (U.out.alloc (.cells #[.slice P2 y0.length q2, .slice P3 y1.length q3] 168)).cell i; clear h0 h1 hb; have zza := fun i => blk_frozen (Z.out.alloc (.cells #[.slice P2 y0.length q2, .slice P3 y1.length q3] 168)) i))
    refine bodyPost_ret (results_ct rfl _ _ (w.heap.size + 1 + 1) 67 #[_, _] (0, 0) _ rfl (Blk.alloc (show Blk _ _ _ _ from blk_put (blk_put Z.out 0 _ rfl) 1 _ rfl) _) Try.underlying67 rfl (by kernel_rfl)) rfl ?_
    exact ⟨rfl, below_alloc (belowS B.out.size B.out (by omega)) _⟩
  subst c2
  rw [if_neg (by simp)]
  go_enter Try.func62, Try.ntmps62
  go_wp2_with (first | (go_at_call 142; (with_reducible refine (KA.out _ _ HA.out).mono ?_); rintro e W1 ⟨v0, v1, rfl, h0, h1, hb⟩; replace B := Aside0.mk (below_then B.out B.out.size hb); replace HA := Aside0.mk (HA.out.below hb); replace HC := Aside0.mk (HC.out.below hb); replace X := Aside0.mk (X.out.below hb); replace hx := fun i => X.out.cell i; replace Y := Aside0.mk (Y.out.below hb); replace hy := fun i => Y.out.cell i; replace Z := Aside0.mk (Z.out.below hb); replace hz := fun i => Z.out.cell i; replace zz := fun i => blk_frozen Z.out i; have SA0 := Aside0.mk h0; have SA1 := Aside0.mk h1; have e0' := SA0.out; have e1' := SA1.out; obtain ⟨P0, q0, e0⟩ := e0'.slc; subst e0; obtain ⟨P1, q1, e1⟩ := e1'.slc; subst e1; have hsz1 := blk_lt Z.out; have hxa := fun i => (X.out.alloc (.cells #[.slice P0 x0.length q0, .slice P1 x1.length q1] 168)).cell i; have hya := fun i => (Y.out.alloc (.cells #[.slice P0 x0.length q0, .slice P1 x1.length q1] 168)).cell i; have hza := fun i => (Z.out.alloc (.cells #[.slice P0 x0.length q0, .slice P1 x1.length q1] 168)).cell i; clear h0 h1 hb))
  (try clear hxa hya hza)
  have hal := below_alloc (Below.refl W1.heap.size W1) (.cells #[.slice P0 x0.length q0, .slice P1 x1.length q1] 168)
  replace B := Aside0.mk (below_then B.out B.out.size hal)
  replace HA := Aside0.mk (HA.out.below hal)
  replace HC := Aside0.mk (HC.out.below hal)
  replace SA0 := Aside0.mk (SA0.out.below hal)
  replace SA1 := Aside0.mk (SA1.out.below hal)
  replace X := Aside0.mk (X.out.alloc (.cells #[.slice P0 x0.length q0, .slice P1 x1.length q1] 168)); replace hx := fun i => X.out.cell i
  replace Y := Aside0.mk (Y.out.alloc (.cells #[.slice P0 x0.length q0, .slice P1 x1.length q1] 168)); replace hy := fun i => Y.out.cell i
  replace Z := Aside0.mk (Z.out.alloc (.cells #[.slice P0 x0.length q0, .slice P1 x1.length q1] 168)); replace hz := fun i => Z.out.cell i
  have U := Aside0.mk (Blk.new W1 #[.slice P0 x0.length q0, .slice P1 x1.length q1] 168); have hu := fun i => U.out.cell i; clear hal
  go_wp2_with (first | (go_at_call 142; (with_reducible refine (KB.out _ _ HC.out).mono ?_); rintro e W2 ⟨v2, v3, rfl, h0, h1, hb⟩; replace B := Aside0.mk (below_then B.out B.out.size hb); replace HA := Aside0.mk (HA.out.below hb); replace HC := Aside0.mk (HC.out.below hb); replace SA0 := Aside0.mk (SA0.out.below hb); replace SA1 := Aside0.mk (SA1.out.below hb); replace X := Aside0.mk (X.out.below hb); replace hx := fun i => X.out.cell i; replace Y := Aside0.mk (Y.out.below hb); replace hy := fun i => Y.out.cell i; replace Z := Aside0.mk (Z.out.below hb); replace hz := fun i => Z.out.cell i; replace zz := fun i => blk_frozen Z.out i; replace U := Aside0.mk (U.out.below hb); replace hu := fun i => U.out.cell i; have SB0 := Aside0.mk h0; have SB1 := Aside0.mk h1; have e0' := SB0.out; have e1' := SB1.out; obtain ⟨P2, q2, e0⟩ := e0'.slc; subst e0; obtain ⟨P3, q3, e1⟩ := e1'.slc; subst e1; have hsz2 := blk_lt Z.out; have hxa := fun i => (X.out.alloc (.cells #[.slice P2 y0.length q2, .slice P3 y1.length q3] 168)).cell i; have hya := fun i => (Y.out.alloc (.cells #[.slice P2 y0.length q2, .slice P3 y1.length q3] 168)).cell i; have hza := fun i => (Z.out.alloc (.cells #[.slice P2 y0.length q2, .slice P3 y1.length q3] 168)).cell i; have hua := fun i => (U.out.alloc (.cells #[.slice P2 y0.length q2, .slice P3 y1.length q3] 168)).cell i; clear h0 h1 hb))
  (try clear hxa hya hza hua)
  have hal := below_alloc (Below.refl W2.heap.size W2) (.cells #[.slice P2 y0.length q2, .slice P3 y1.length q3] 168)
  replace B := Aside0.mk (below_then B.out B.out.size hal)
  replace HA := Aside0.mk (HA.out.below hal)
  replace HC := Aside0.mk (HC.out.below hal)
  replace SA0 := Aside0.mk (SA0.out.below hal)
  replace SA1 := Aside0.mk (SA1.out.below hal)
  replace SB0 := Aside0.mk (SB0.out.below hal)
  replace SB1 := Aside0.mk (SB1.out.below hal)
  replace X := Aside0.mk (X.out.alloc (.cells #[.slice P2 y0.length q2, .slice P3 y1.length q3] 168)); replace hx := fun i => X.out.cell i
  replace Y := Aside0.mk (Y.out.alloc (.cells #[.slice P2 y0.length q2, .slice P3 y1.length q3] 168)); replace hy := fun i => Y.out.cell i
  replace Z := Aside0.mk (Z.out.alloc (.cells #[.slice P2 y0.length q2, .slice P3 y1.length q3] 168)); replace hz := fun i => Z.out.cell i
  replace U := Aside0.mk (U.out.alloc (.cells #[.slice P2 y0.length q2, .slice P3 y1.length q3] 168)); replace hu := fun i => U.out.cell i
  have V := Aside0.mk (Blk.new W2 #[.slice P2 y0.length q2, .slice P3 y1.length q3] 168); have hv := fun i => V.out.cell i; clear hal
  replace HA := Aside0.mk (HA.out.below (below_drew (Below.refl _ _)))
  replace HC := Aside0.mk (HC.out.below (below_drew (Below.refl _ _)))
  replace SA0 := Aside0.mk (SA0.out.below (below_drew (Below.refl _ _)))
  replace SA1 := Aside0.mk (SA1.out.below (below_drew (Below.refl _ _)))
  replace SB0 := Aside0.mk (SB0.out.below (below_drew (Below.refl _ _)))
  replace SB1 := Aside0.mk (SB1.out.below (below_drew (Below.refl _ _)))
  replace X := Aside0.mk (X.out.below (below_drew (Below.refl _ _)))
  replace Y := Aside0.mk (Y.out.below (below_drew (Below.refl _ _)))
  replace Z := Aside0.mk (Z.out.below (below_drew (Below.refl _ _)))
  replace U := Aside0.mk (U.out.below (below_drew (Below.refl _ _)))
  replace V := Aside0.mk (V.out.below (below_drew (Below.refl _ _)))
  replace B := Aside0.mk (below_drew B.out)
  go_region_held3 (fun W => (∀ i, W.cell? ⟨w.heap.size, i, none⟩ = (#[.int .i64 a.f0, .int .u64 a.f1, .int .u64 a.f2, .int .u64 a.f3, .int .u64 a.f4, .slice A5a a.f5.length c5a, .slice A6a a.f6.length c6a, .slice A7a a.f7.length c7a, .slice A8a a.f8.length c8a] : Array Value)[i]?) ∧ (∀ i, W.cell? ⟨w.heap.size + 1, i, none⟩ = (#[.int .i64 b.f0, .int .u64 b.f1, .int .u64 b.f2, .int .u64 b.f3, .int .u64 b.f4, .slice A5b b.f5.length c5b, .slice A6b b.f6.length c6b, .slice A7b b.f7.length c7b, .slice A8b b.f8.length c8b] : Array Value)[i]?) ∧ (∀ i, W.cell? ⟨W1.heap.size, i, none⟩ = (#[.slice P0 x0.length q0, .slice P1 x1.length q1] : Array Value)[i]?) ∧ (∀ i, W.cell? ⟨W2.heap.size, i, none⟩ = (#[.slice P2 y0.length q2, .slice P3 y1.length q3] : Array Value)[i]?)) (first | exact ⟨fun i => X.out.cell i, fun i => Y.out.cell i, fun i => U.out.cell i, fun i => V.out.cell i⟩ | exact ⟨fun i => blk_cell (blk_far X.out (by show w.heap.size ≠ w.heap.size + 1 + 1; omega) _) i, fun i => blk_cell (blk_far Y.out (by show w.heap.size + 1 ≠ w.heap.size + 1 + 1; omega) _) i, fun i => blk_cell (blk_far U.out (by show W1.heap.size ≠ w.heap.size + 1 + 1; omega) _) i, fun i => blk_cell (blk_far V.out (by show W2.heap.size ≠ w.heap.size + 1 + 1; omega) _) i⟩ | exact ⟨fun i => blk_cell (blk_far (blk_far X.out (by show w.heap.size ≠ w.heap.size + 1 + 1; omega) _) (by show w.heap.size ≠ w.heap.size + 1 + 1; omega) _) i, fun i => blk_cell (blk_far (blk_far Y.out (by show w.heap.size + 1 ≠ w.heap.size + 1 + 1; omega) _) (by show w.heap.size + 1 ≠ w.heap.size + 1 + 1; omega) _) i, fun i => blk_cell (blk_far (blk_far U.out (by show W1.heap.size ≠ w.heap.size + 1 + 1; omega) _) (by show W1.heap.size ≠ w.heap.size + 1 + 1; omega) _) i, fun i => blk_cell (blk_far (blk_far V.out (by show W2.heap.size ≠ w.heap.size + 1 + 1; omega) _) (by show W2.heap.size ≠ w.heap.size + 1 + 1; omega) _) i⟩) (first | (go_at_call 137; (with_reducible refine (HD.out _).mono ?_); rintro e W3 ⟨rfl, hb⟩; replace B := Aside0.mk (below_then B.out B.out.size hb); replace HA := Aside0.mk (HA.out.below hb); replace HC := Aside0.mk (HC.out.below hb); replace SA0 := Aside0.mk (SA0.out.below hb); replace SA1 := Aside0.mk (SA1.out.below hb); replace SB0 := Aside0.mk (SB0.out.below hb); replace SB1 := Aside0.mk (SB1.out.below hb); replace X := Aside0.mk (X.out.below hb); replace hx := fun i => X.out.cell i; replace Y := Aside0.mk (Y.out.below hb); replace hy := fun i => Y.out.cell i; replace Z := Aside0.mk (Z.out.below hb); replace hz := fun i => Z.out.cell i; replace zz := fun i => blk_frozen Z.out i; replace U := Aside0.mk (U.out.below hb); replace hu := fun i => U.out.cell i; replace V := Aside0.mk (V.out.below hb); replace hv := fun i => V.out.cell i; clear  hb) | (go_at_call 143; (with_reducible refine (VD.out _ _ _ _ _ SA0.out SA1.out SB0.out SB1.out).mono ?_); rintro e W4 ⟨rfl, hb⟩; replace B := Aside0.mk (below_then B.out B.out.size hb); replace HA := Aside0.mk (HA.out.below hb); replace HC := Aside0.mk (HC.out.below hb); replace SA0 := Aside0.mk (SA0.out.below hb); replace SA1 := Aside0.mk (SA1.out.below hb); replace SB0 := Aside0.mk (SB0.out.below hb); replace SB1 := Aside0.mk (SB1.out.below hb); replace X := Aside0.mk (X.out.below hb); replace hx := fun i => X.out.cell i; replace Y := Aside0.mk (Y.out.below hb); replace hy := fun i => Y.out.cell i; replace Z := Aside0.mk (Z.out.below hb); replace hz := fun i => Z.out.cell i; replace zz := fun i => blk_frozen Z.out i; replace U := Aside0.mk (U.out.below hb); replace hu := fun i => U.out.cell i; replace V := Aside0.mk (V.out.below hb); replace hv := fun i => V.out.cell i; clear  hb))
  all_goals go_wp2
  all_goals (refine bodyPost_ret (results_ct rfl _ _ (w.heap.size + 1 + 1) 67 #[_, _] (0, 0) _ rfl (blk_put (blk_put (Z.out) 0 _ rfl) 1 _ rfl) Try.underlying67 rfl (by kernel_rfl)) rfl ?_; exact ⟨rfl, belowS B.out.size B.out (by omega)⟩)
end Go.Proofs.Ytacgeafjilipdaa.P
namespace Go.Proofs.Ytacgeafjilipdaa.P
open Go.RowKit Go.Shelf Go.Proofs.YtacgeafjilipdaaW.PrintWords Go.Proofs.YtacgeafjilipdaaW.PrintLast Go.Proofs.YtacgeafjilipdaaW.PrintMore
set_option linter.unusedVariables false
set_option linter.unusedSimpArgs false
def nameS (a : Int) : ByteArray := if a = 0 then ⟨#[110, 111, 110, 101]⟩ else if a = 1 then ⟨#[115, 99, 104, 101, 109, 97]⟩ else if a = 2 then ⟨#[116, 104, 114, 101, 115, 104, 111, 108, 100]⟩ else if a = 3 then ⟨#[99, 111, 117, 110, 116]⟩ else if a = 4 then ⟨#[122, 101, 114, 111, 32, 99, 111, 117, 110, 116]⟩ else if a = 5 then ⟨#[112, 111, 115, 105, 116, 105, 118, 101]⟩ else if a = 6 then ⟨#[110, 101, 103, 97, 116, 105, 118, 101]⟩ else ⟨#[]⟩
theorem nameS_no {a : Int} (h : ¬ (0 ≤ a ∧ a ≤ 6)) : nameS a = ⟨#[]⟩ := by
  unfold nameS
  rw [if_neg (by omega), if_neg (by omega), if_neg (by omega), if_neg (by omega), if_neg (by omega), if_neg (by omega), if_neg (by omega)]
set_option maxHeartbeats 4000000 in
set_option maxRecDepth 100000 in
theorem name_c (a : Int) (w : World) : Calls Try.prog 66 #[.int .i64 a] w fun e w' => e = .returned (.string (nameS a)) ∧ Below w.heap.size w w' := by
  have hu := Try.underlying174
  by_cases h : 0 ≤ a ∧ a ≤ 6
  · have X := Blk.new w #[.string ⟨#[110, 111, 110, 101]⟩, .string ⟨#[115, 99, 104, 101, 109, 97]⟩, .string ⟨#[116, 104, 114, 101, 115, 104, 111, 108, 100]⟩, .string ⟨#[99, 111, 117, 110, 116]⟩, .string ⟨#[122, 101, 114, 111, 32, 99, 111, 117, 110, 116]⟩, .string ⟨#[112, 111, 115, 105, 116, 105, 118, 101]⟩, .string ⟨#[110, 101, 103, 97, 116, 105, 118, 101]⟩] 174
    have hx := fun i => X.cell i
    obtain h | h | h | h | h | h | h : a = 0 ∨ a = 1 ∨ a = 2 ∨ a = 3 ∨ a = 4 ∨ a = 5 ∨ a = 6 := by omega
    all_goals subst h
    all_goals go_enter Try.func66, Try.ntmps66
    all_goals go_wp2
    all_goals go_ret
    all_goals exact ⟨rfl, below_alloc (Below.refl _ _) _⟩
  · rw [nameS_no h]
    by_cases h1 : a < 0
    · have d1 : decide (a < 0) = true := decide_eq_true h1
      clear h h1
      go_enter Try.func66, Try.ntmps66
      go_wp2
      go_ret
      exact ⟨rfl, below_alloc (Below.refl _ _) _⟩
    · have d1 : decide (a < 0) = false := decide_eq_false h1
      have d2 : decide (7 ≤ a) = true := decide_eq_true (by omega)
      clear h h1
      go_enter Try.func66, Try.ntmps66
      go_wp2
      go_ret
      exact ⟨rfl, below_alloc (Below.refl _ _) _⟩
end Go.Proofs.Ytacgeafjilipdaa.P
namespace Go.Proofs.Ytacgeafjilipdaa.P
open Go.RowKit Go.Shelf Go.Proofs.YtacgeafjilipdaaW.PrintWords Go.Proofs.YtacgeafjilipdaaW.PrintLast Go.Proofs.YtacgeafjilipdaaW.PrintMore
set_option linter.unusedVariables false
set_option linter.unusedSimpArgs false
theorem reps_one_span (w : World) (a b : Int) : Reps (k144.K w) 2 [(⟨a, b⟩ : S144)] [.int .i64 a, .int .i64 b] := by
  refine ⟨rfl, fun j p hj => ?_⟩
  cases j with
  | zero => injection hj with hj; subst hj; exact k144_mk w _
  | succ j => simp at hj
end Go.Proofs.Ytacgeafjilipdaa.P
namespace Go.Proofs.Ytacgeafjilipdaa.P
open Go.RowKit Go.Shelf Go.Proofs.YtacgeafjilipdaaW.PrintWords Go.Proofs.YtacgeafjilipdaaW.PrintLast Go.Proofs.YtacgeafjilipdaaW.PrintMore
set_option linter.unusedVariables false
set_option linter.unusedSimpArgs false
def awA : Hi := ⟨0, 0, 0, 6, 0, [⟨3, 2⟩], [], [5, -4], []⟩
def awB : Hi := ⟨0, 0, 0, 9, 0, [⟨3, 1⟩], [], [9], []⟩
def awF : Fh := ⟨1, 0, 0, 0, 0, [], [], [], []⟩
theorem awA_wf : wfH awA := by unfold wfH; decide
theorem awB_wf : wfH awB := by unfold wfH; decide
theorem awF_wf : wfF awF := by unfold wfF; decide
theorem awE_wf : wfF emptyF := by unfold wfF; decide
theorem aw11_1 : intsR awA awB = ((5, 4), 0) := by kernel_rfl
theorem aw11_2 : intsR awB awA = ((3, 0), 0) := by kernel_rfl
theorem aw11_3 : floatsR awF emptyF = ((1, 0), 0) := by kernel_rfl
theorem aw11_4 : sameR awA awA = true := by kernel_rfl
theorem hp_at {w : World} {k : Nat} (h : w.heap.size = k) (o : Obj) : (w.alloc o).heap[k]? = some o := h ▸ heap_alloc_new w o
theorem hp_old {w : World} {k : Nat} {o' : Obj} (o : Obj) (h : w.heap[k]? = some o') : (w.alloc o).heap[k]? = some o' := by
  have hk : k < w.heap.size := by
    rcases Nat.lt_or_ge k w.heap.size with h1 | h1
    · exact h1
    · rw [Array.getElem?_eq_none h1] at h; cases h
  show (w.heap.push o)[k]? = _
  rw [Array.getElem?_push, if_neg (by omega)]; exact h
theorem aw11_5 : nameS 5 = ⟨#[112, 111, 115, 105, 116, 105, 118, 101]⟩ := rfl
theorem lit6 (w : World) (o1 o2 o3 o4 o5 o6 : Obj) :
    let W := ((((((w.alloc o1).alloc o2).alloc o3).alloc o4).alloc o5).alloc o6)
    W.heap[w.heap.size]? = some o1 ∧ W.heap[w.heap.size + 1]? = some o2 ∧ W.heap[w.heap.size + 1 + 1]? = some o3 ∧ W.heap[w.heap.size + 1 + 1 + 1]? = some o4 ∧ W.heap[w.heap.size + 1 + 1 + 1 + 1]? = some o5 ∧ W.heap[w.heap.size + 1 + 1 + 1 + 1 + 1]? = some o6 ∧ Below w.heap.size w W := by
  exact ⟨(hp_old o6 (hp_old o5 (hp_old o4 (hp_old o3 (hp_old o2 (hp_at (w := w) (by simp) o1)))))), (hp_old o6 (hp_old o5 (hp_old o4 (hp_old o3 (hp_at (w := (w.alloc o1)) (by simp) o2))))), (hp_old o6 (hp_old o5 (hp_old o4 (hp_at (w := ((w.alloc o1).alloc o2)) (by simp) o3)))), (hp_old o6 (hp_old o5 (hp_at (w := (((w.alloc o1).alloc o2).alloc o3)) (by simp) o4))), (hp_old o6 (hp_at (w := ((((w.alloc o1).alloc o2).alloc o3).alloc o4)) (by simp) o5)), (hp_at (w := (((((w.alloc o1).alloc o2).alloc o3).alloc o4).alloc o5)) (by simp) o6), below_alloc (below_alloc (below_alloc (below_alloc (below_alloc (below_alloc (Below.refl _ _) _) _) _) _) _) _⟩
set_option maxHeartbeats 16000000 in
set_option maxRecDepth 100000 in
theorem awake11_c (w : World) : Calls Try.prog 55 #[] w fun e w' => e = .returned (.bool true) ∧ Below w.heap.size w w' := by
  have hu1 := Try.underlying144
  have hu2 := Try.underlying64
  have hu3 := Try.underlying67
  have hu4 := Try.underlying79
  have k1 := resetI_c awA awB awA_wf awB_wf
  have k2 := resetI_c awB awA awB_wf awA_wf
  have k4 := same11_c awA awA awA_wf awA_wf
  have k3 := fun w => resetF_c awF emptyF awF_wf awE_wf w (.agg #[.int .i64 1, .int .u64 0, .int .u64 0, .int .u64 0, .int .u64 0, .slice none 0 0, .slice none 0 0, .slice none 0 0, .slice none 0 0]) (.agg #[.int .i64 0, .int .u64 0, .int .u64 0, .int .u64 0, .int .u64 0, .slice none 0 0, .slice none 0 0, .slice none 0 0, .slice none 0 0]) (GI.mk (h := awF) (SI.nil _ _) (SI.nil _ _) (SI.nil _ _) (SI.nil _ _)) (GI.mk (h := emptyF) (SI.nil _ _) (SI.nil _ _) (SI.nil _ _) (SI.nil _ _))
  rw [aw11_1] at k1
  rw [aw11_2] at k2
  rw [aw11_3] at k3
  rw [aw11_4] at k4
  have k5 := name_c 5
  rw [aw11_5] at k5
  have K5 := Aside0.mk k5
  clear k5
  have K1 := Aside0.mk k1
  have K2 := Aside0.mk k2
  have K3 := Aside0.mk k3
  have K4 := Aside0.mk k4
  clear k1 k2 k3 k4
  obtain ⟨b1, b2, b3, b4, b5, b6, bb⟩ := lit6 w (.cells #[.int .i64 3, .int .i64 2] 144) (.cells #[.int .i64 5, .int .i64 (-4)] 2) (.cells #[.int .i64 0, .int .u64 0, .int .u64 0, .int .u64 6, .int .u64 0, .slice (some ⟨w.heap.size, 0, none⟩) 1 1, .slice none 0 0, .slice (some ⟨w.heap.size + 1, 0, none⟩) 2 2, .slice none 0 0] 64) (.cells #[.int .i64 3, .int .i64 1] 144) (.cells #[.int .i64 9] 2) (.cells #[.int .i64 0, .int .u64 0, .int .u64 0, .int .u64 9, .int .u64 0, .slice (some ⟨w.heap.size + 1 + 1 + 1, 0, none⟩) 1 1, .slice none 0 0, .slice (some ⟨w.heap.size + 1 + 1 + 1 + 1, 0, none⟩) 1 1, .slice none 0 0] 64)
  have B := Aside0.mk bb
  have X := Aside0.mk (show Blk ((((((w.alloc (.cells #[.int .i64 3, .int .i64 2] 144)).alloc (.cells #[.int .i64 5, .int .i64 (-4)] 2)).alloc (.cells #[.int .i64 0, .int .u64 0, .int .u64 0, .int .u64 6, .int .u64 0, .slice (some ⟨w.heap.size, 0, none⟩) 1 1, .slice none 0 0, .slice (some ⟨w.heap.size + 1, 0, none⟩) 2 2, .slice none 0 0] 64)).alloc (.cells #[.int .i64 3, .int .i64 1] 144)).alloc (.cells #[.int .i64 9] 2)).alloc (.cells #[.int .i64 0, .int .u64 0, .int .u64 0, .int .u64 9, .int .u64 0, .slice (some ⟨w.heap.size + 1 + 1 + 1, 0, none⟩) 1 1, .slice none 0 0, .slice (some ⟨w.heap.size + 1 + 1 + 1 + 1, 0, none⟩) 1 1, .slice none 0 0] 64)) (w.heap.size + 1 + 1) #[.int .i64 0, .int .u64 0, .int .u64 0, .int .u64 6, .int .u64 0, .slice (some ⟨w.heap.size, 0, none⟩) 1 1, .slice none 0 0, .slice (some ⟨w.heap.size + 1, 0, none⟩) 2 2, .slice none 0 0] 64 from b3)
  have Y := Aside0.mk (show Blk ((((((w.alloc (.cells #[.int .i64 3, .int .i64 2] 144)).alloc (.cells #[.int .i64 5, .int .i64 (-4)] 2)).alloc (.cells #[.int .i64 0, .int .u64 0, .int .u64 0, .int .u64 6, .int .u64 0, .slice (some ⟨w.heap.size, 0, none⟩) 1 1, .slice none 0 0, .slice (some ⟨w.heap.size + 1, 0, none⟩) 2 2, .slice none 0 0] 64)).alloc (.cells #[.int .i64 3, .int .i64 1] 144)).alloc (.cells #[.int .i64 9] 2)).alloc (.cells #[.int .i64 0, .int .u64 0, .int .u64 0, .int .u64 9, .int .u64 0, .slice (some ⟨w.heap.size + 1 + 1 + 1, 0, none⟩) 1 1, .slice none 0 0, .slice (some ⟨w.heap.size + 1 + 1 + 1 + 1, 0, none⟩) 1 1, .slice none 0 0] 64)) (w.heap.size + 1 + 1 + 1 + 1 + 1) #[.int .i64 0, .int .u64 0, .int .u64 0, .int .u64 9, .int .u64 0, .slice (some ⟨w.heap.size + 1 + 1 + 1, 0, none⟩) 1 1, .slice none 0 0, .slice (some ⟨w.heap.size + 1 + 1 + 1 + 1, 0, none⟩) 1 1, .slice none 0 0] 64 from b6)
  have hx := fun i => X.out.cell i
  have hy := fun i => Y.out.cell i
  have HA := Aside0.mk (show HI ((((((w.alloc (.cells #[.int .i64 3, .int .i64 2] 144)).alloc (.cells #[.int .i64 5, .int .i64 (-4)] 2)).alloc (.cells #[.int .i64 0, .int .u64 0, .int .u64 0, .int .u64 6, .int .u64 0, .slice (some ⟨w.heap.size, 0, none⟩) 1 1, .slice none 0 0, .slice (some ⟨w.heap.size + 1, 0, none⟩) 2 2, .slice none 0 0] 64)).alloc (.cells #[.int .i64 3, .int .i64 1] 144)).alloc (.cells #[.int .i64 9] 2)).alloc (.cells #[.int .i64 0, .int .u64 0, .int .u64 0, .int .u64 9, .int .u64 0, .slice (some ⟨w.heap.size + 1 + 1 + 1, 0, none⟩) 1 1, .slice none 0 0, .slice (some ⟨w.heap.size + 1 + 1 + 1 + 1, 0, none⟩) 1 1, .slice none 0 0] 64)) (.agg #[.int .i64 0, .int .u64 0, .int .u64 0, .int .u64 6, .int .u64 0, .slice (some ⟨w.heap.size, 0, none⟩) 1 1, .slice none 0 0, .slice (some ⟨w.heap.size + 1, 0, none⟩) 2 2, .slice none 0 0]) awA from HI.mk (h := awA) (.of (C_of_blk [(⟨3, 2⟩ : S144)] b1 (reps_one_span _ 3 2) (by decide)) (by decide)) (SI.nil _ _) (.of (C_of_blk [5, -4] b2 (reps_nums _ .i64 [5, -4]) (by decide)) (by decide)) (SI.nil _ _))
  have HC := Aside0.mk (show HI ((((((w.alloc (.cells #[.int .i64 3, .int .i64 2] 144)).alloc (.cells #[.int .i64 5, .int .i64 (-4)] 2)).alloc (.cells #[.int .i64 0, .int .u64 0, .int .u64 0, .int .u64 6, .int .u64 0, .slice (some ⟨w.heap.size, 0, none⟩) 1 1, .slice none 0 0, .slice (some ⟨w.heap.size + 1, 0, none⟩) 2 2, .slice none 0 0] 64)).alloc (.cells #[.int .i64 3, .int .i64 1] 144)).alloc (.cells #[.int .i64 9] 2)).alloc (.cells #[.int .i64 0, .int .u64 0, .int .u64 0, .int .u64 9, .int .u64 0, .slice (some ⟨w.heap.size + 1 + 1 + 1, 0, none⟩) 1 1, .slice none 0 0, .slice (some ⟨w.heap.size + 1 + 1 + 1 + 1, 0, none⟩) 1 1, .slice none 0 0] 64)) (.agg #[.int .i64 0, .int .u64 0, .int .u64 0, .int .u64 9, .int .u64 0, .slice (some ⟨w.heap.size + 1 + 1 + 1, 0, none⟩) 1 1, .slice none 0 0, .slice (some ⟨w.heap.size + 1 + 1 + 1 + 1, 0, none⟩) 1 1, .slice none 0 0]) awB from HI.mk (h := awB) (.of (C_of_blk [(⟨3, 1⟩ : S144)] b4 (reps_one_span _ 3 1) (by decide)) (by decide)) (SI.nil _ _) (.of (C_of_blk [9] b5 (reps_nums _ .i64 [9]) (by decide)) (by decide)) (SI.nil _ _))
  clear b1 b2 b3 b4 b5 b6 bb
  go_enter Try.func55, Try.ntmps55
  go_wp2_with (first | (go_at_call 56; (with_reducible refine (K1.out _ _ _ HA.out HC.out).mono ?_); rintro e W1 ⟨rfl, hb⟩; replace B := Aside0.mk (below_then B.out B.out.size hb); replace HA := Aside0.mk (HA.out.below hb); replace HC := Aside0.mk (HC.out.below hb); replace X := Aside0.mk (X.out.below hb); replace hx := fun i => X.out.cell i; replace Y := Aside0.mk (Y.out.below hb); replace hy := fun i => Y.out.cell i; have hxa := fun i => (X.out.alloc (.cells #[.int .i64 5, .int .i64 4] 67)).cell i; have hya := fun i => (Y.out.alloc (.cells #[.int .i64 5, .int .i64 4] 67)).cell i; clear  hb))
  (try clear hxa hya)
  have hal := below_alloc (Below.refl W1.heap.size W1) (.cells #[.int .i64 5, .int .i64 4] 67)
  replace B := Aside0.mk (below_then B.out B.out.size hal)
  replace HA := Aside0.mk (HA.out.below hal)
  replace HC := Aside0.mk (HC.out.below hal)
  replace X := Aside0.mk (X.out.alloc (.cells #[.int .i64 5, .int .i64 4] 67)); replace hx := fun i => X.out.cell i
  replace Y := Aside0.mk (Y.out.alloc (.cells #[.int .i64 5, .int .i64 4] 67)); replace hy := fun i => Y.out.cell i
  have U := Aside0.mk (Blk.new W1 #[.int .i64 5, .int .i64 4] 67); have hu := fun i => U.out.cell i; clear hal
  go_wp2_with (first | (go_at_call 56; (with_reducible refine (K2.out _ _ _ HC.out HA.out).mono ?_); rintro e W2 ⟨rfl, hb⟩; replace B := Aside0.mk (below_then B.out B.out.size hb); replace HA := Aside0.mk (HA.out.below hb); replace HC := Aside0.mk (HC.out.below hb); replace X := Aside0.mk (X.out.below hb); replace hx := fun i => X.out.cell i; replace Y := Aside0.mk (Y.out.below hb); replace hy := fun i => Y.out.cell i; replace U := Aside0.mk (U.out.below hb); replace hu := fun i => U.out.cell i; have hxa := fun i => (X.out.alloc (.cells #[.int .i64 3, .int .i64 0] 67)).cell i; have hya := fun i => (Y.out.alloc (.cells #[.int .i64 3, .int .i64 0] 67)).cell i; have hua := fun i => (U.out.alloc (.cells #[.int .i64 3, .int .i64 0] 67)).cell i; clear  hb))
  (try clear hxa hya hua)
  have hal := below_alloc (Below.refl W2.heap.size W2) (.cells #[.int .i64 3, .int .i64 0] 67)
  replace B := Aside0.mk (below_then B.out B.out.size hal)
  replace HA := Aside0.mk (HA.out.below hal)
  replace HC := Aside0.mk (HC.out.below hal)
  replace X := Aside0.mk (X.out.alloc (.cells #[.int .i64 3, .int .i64 0] 67)); replace hx := fun i => X.out.cell i
  replace Y := Aside0.mk (Y.out.alloc (.cells #[.int .i64 3, .int .i64 0] 67)); replace hy := fun i => Y.out.cell i
  replace U := Aside0.mk (U.out.alloc (.cells #[.int .i64 3, .int .i64 0] 67)); replace hu := fun i => U.out.cell i
  have V := Aside0.mk (Blk.new W2 #[.int .i64 3, .int .i64 0] 67); have hv := fun i => V.out.cell i; clear hal
  go_wp2_with (first | (go_at_call 62; (with_reducible refine (K3.out _).mono ?_); rintro e W3 ⟨rfl, hb⟩; replace B := Aside0.mk (below_then B.out B.out.size hb); replace HA := Aside0.mk (HA.out.below hb); replace HC := Aside0.mk (HC.out.below hb); replace X := Aside0.mk (X.out.below hb); replace hx := fun i => X.out.cell i; replace Y := Aside0.mk (Y.out.below hb); replace hy := fun i => Y.out.cell i; replace U := Aside0.mk (U.out.below hb); replace hu := fun i => U.out.cell i; replace V := Aside0.mk (V.out.below hb); replace hv := fun i => V.out.cell i; have hxa := fun i => (X.out.alloc (.cells #[.int .i64 1, .int .i64 0] 67)).cell i; have hya := fun i => (Y.out.alloc (.cells #[.int .i64 1, .int .i64 0] 67)).cell i; have hua := fun i => (U.out.alloc (.cells #[.int .i64 1, .int .i64 0] 67)).cell i; have hva := fun i => (V.out.alloc (.cells #[.int .i64 1, .int .i64 0] 67)).cell i; clear  hb))
  (try clear hxa hya hua hva)
  have hal := below_alloc (Below.refl W3.heap.size W3) (.cells #[.int .i64 1, .int .i64 0] 67)
  replace B := Aside0.mk (below_then B.out B.out.size hal)
  replace HA := Aside0.mk (HA.out.below hal)
  replace HC := Aside0.mk (HC.out.below hal)
  replace X := Aside0.mk (X.out.alloc (.cells #[.int .i64 1, .int .i64 0] 67)); replace hx := fun i => X.out.cell i
  replace Y := Aside0.mk (Y.out.alloc (.cells #[.int .i64 1, .int .i64 0] 67)); replace hy := fun i => Y.out.cell i
  replace U := Aside0.mk (U.out.alloc (.cells #[.int .i64 1, .int .i64 0] 67)); replace hu := fun i => U.out.cell i
  replace V := Aside0.mk (V.out.alloc (.cells #[.int .i64 1, .int .i64 0] 67)); replace hv := fun i => V.out.cell i
  have T := Aside0.mk (Blk.new W3 #[.int .i64 1, .int .i64 0] 67); have ht := fun i => T.out.cell i; clear hal
  go_wp2_with (first | (go_at_call 59; (with_reducible refine (K4.out _ _ _ HA.out HA.out).mono ?_); rintro e W4 ⟨rfl, hb⟩; replace B := Aside0.mk (below_then B.out B.out.size hb); replace HA := Aside0.mk (HA.out.below hb); replace HC := Aside0.mk (HC.out.below hb); replace X := Aside0.mk (X.out.below hb); replace hx := fun i => X.out.cell i; replace Y := Aside0.mk (Y.out.below hb); replace hy := fun i => Y.out.cell i; replace U := Aside0.mk (U.out.below hb); replace hu := fun i => U.out.cell i; replace V := Aside0.mk (V.out.below hb); replace hv := fun i => V.out.cell i; replace T := Aside0.mk (T.out.below hb); replace ht := fun i => T.out.cell i; clear  hb) | (go_at_call 66; (with_reducible refine (K5.out _).mono ?_); rintro e W5 ⟨rfl, hb⟩; replace B := Aside0.mk (below_then B.out B.out.size hb); replace HA := Aside0.mk (HA.out.below hb); replace HC := Aside0.mk (HC.out.below hb); replace X := Aside0.mk (X.out.below hb); replace hx := fun i => X.out.cell i; replace Y := Aside0.mk (Y.out.below hb); replace hy := fun i => Y.out.cell i; replace U := Aside0.mk (U.out.below hb); replace hu := fun i => U.out.cell i; replace V := Aside0.mk (V.out.below hb); replace hv := fun i => V.out.cell i; replace T := Aside0.mk (T.out.below hb); replace ht := fun i => T.out.cell i; clear  hb))
  go_ret
  exact ⟨rfl, B.out⟩
end Go.Proofs.Ytacgeafjilipdaa.P
namespace Go.Proofs.Ytacgeafjilipdaa.P
open Go.RowKit Go.Proofs.YtacgeafjilipdaaW.PrintWords Go.Proofs.YtacgeafjilipdaaW.PrintLast Go.Proofs.YtacgeafjilipdaaW.PrintMore
attribute [local go_sem] max2_int min2_int max_two min_two max_three min_three max_four min_four
set_option linter.unusedVariables false
set_option linter.unusedSimpArgs false
def tidepolelaw11_few.l0 : Nat → Int → List (S144) → Int → Int → Option (Bool)
 | 0, _, _, _, _ => none
 | k + 1, x3, x6, x7, x8 => if x8 < x7 then (if 0 ≤ x8 then (if x8 < (x6.length : Int) then (if ((rd_T144 x6 x8).f1) > 0 then (if (wrap64 ((wrap64 (x3 + (wrap64 (1 + (wrap64 (Int.tdiv (mn ((rd_T144 x6 x8).f1) 5000) 10)))))) + 1)) > 400 then (some false) else (tidepolelaw11_few.l0 k (wrap64 ((wrap64 (x3 + (wrap64 (1 + (wrap64 (Int.tdiv (mn ((rd_T144 x6 x8).f1) 5000) 10)))))) + 1)) x6 x7 (wrap64 (x8 + 1)))) else (if (wrap64 (x3 + 1)) > 400 then (some false) else (tidepolelaw11_few.l0 k (wrap64 (x3 + 1)) x6 x7 (wrap64 (x8 + 1))))) else (none)) else (none)) else (some true)
def tidepolelaw11_few.f (k : Nat) (l0 : List (S144)) : Option (Bool) := tidepolelaw11_few.l0 k 0 l0 (l0.length : Int) 0
set_option maxHeartbeats 8000000 in
set_option maxRecDepth 100000 in
theorem tidepolelaw11_few.calls (k : Nat) (A0 : Option Addr) (c0 : Nat) (l0 : List (S144)) (r : Bool) (w : World) (hr0 : Kd.C k144 w A0 l0.length l0) (hc0 : l0.length ≤ c0) (h : tidepolelaw11_few.f k l0 = some r) :
  Calls Try.prog 134 #[.slice A0 l0.length c0] w fun e w' => e = .returned (.bool r) ∧ Below w.heap.size w w' := by
 have hu144 := Try.underlying144
 have HR0 := Aside0.mk hr0
 have HC0 := Aside0.mk hc0
 clear hr0 hc0
 have HB := Aside0.mk (Below.refl w.heap.size w)
 have H : (tidepolelaw11_few.l0 k 0 l0 (l0.length : Int) 0) = some r := h
 clear h
 have H' := Aside0.mk H
 clear H
 go_enter Try.func134, Try.ntmps134
 go_wp2
 go_loopg [3, 8] k (fun kq v3 v8 w' => ∃ (x3_1 : Int) (x8_1 : Int), v3 = .int .i64 x3_1 ∧ v8 = .int .i64 x8_1 ∧ Aside0 (tidepolelaw11_few.l0 kq x3_1 l0 (l0.length : Int) x8_1 = some r) ∧ Aside0 (kq ≤ k) ∧ Aside0 (Below w.heap.size w w'))
 case atStart => exact ⟨(0), (0), (by first | rfl | (simp; done) | (simp [*]; done)), (by first | rfl | (simp; done) | (simp [*]; done)), H', ⟨Nat.le_refl _⟩, ⟨by repeat (first | (with_reducible first | exact HB.out | apply below_alloc | apply pw_below_drewN | apply below_drew1) | exact HB.out)⟩⟩
 case round =>
  clear H'
  try clear c1
  obtain ⟨x3_1, x8_1, rfl, rfl, HA, HK1, HB⟩ := hrel
  cases gk with
  | zero => exact absurd HA.out (by simp [tidepolelaw11_few.l0])
  | succ k1 =>
   have H := HA.out
   clear HA
   simp only [tidepolelaw11_few.l0] at H
   by_cases c2 : x8_1 < (l0.length : Int)
   ·rw [if_pos c2] at H
    have c2b0 : decide (x8_1 < (l0.length : Int)) = true := decide_eq_true c2
    clear c2
    by_cases c3 : 0 ≤ x8_1
    ·rw [if_pos c3] at H
     have c3b0 : decide (0 ≤ x8_1) = true := decide_eq_true c3
     clear c3
     by_cases c4 : x8_1 < (l0.length : Int)
     ·rw [if_pos c4] at H
      have c4b0 : decide (x8_1 < (l0.length : Int)) = true := decide_eq_true c4
      clear c4
      by_cases c5 : ((rd_T144 l0 x8_1).f1) > 0
      ·rw [if_pos c5] at H
       have c5b0 : decide (0 < ((rd_T144 l0 x8_1).f1)) = true := decide_eq_true c5
       clear c5
       obtain ⟨ji6, hji6⟩ : ∃ j_ : Int, (mn ((rd_T144 l0 x8_1).f1) 5000) = j_ := ⟨_, rfl⟩
       replace H : (if (wrap64 ((wrap64 (x3_1 + (wrap64 (1 + (wrap64 (Int.tdiv (ji6) 10)))))) + 1)) > 400 then (some false) else (tidepolelaw11_few.l0 k1 (wrap64 ((wrap64 (x3_1 + (wrap64 (1 + (wrap64 (Int.tdiv (ji6) 10)))))) + 1)) l0 (l0.length : Int) (wrap64 (x8_1 + 1)))) = some r := by first | (rw [hji6] at H; exact H) | (simp only [hji6] at H ⊢; exact H)
       have hji6_ : (if 5000 < ((rd_T144 l0 x8_1).f1) then 5000 else ((rd_T144 l0 x8_1).f1)) = ji6 := hji6
       by_cases c7 : (wrap64 ((wrap64 (x3_1 + (wrap64 (1 + (wrap64 (Int.tdiv (ji6) 10)))))) + 1)) > 400
       ·rw [if_pos c7] at H
        have c7b0 : decide (400 < (wrap64 ((wrap64 (x3_1 + (wrap64 (1 + (wrap64 (Int.tdiv (ji6) 10)))))) + 1))) = true := decide_eq_true c7
        clear c7
        obtain rfl := Option.some.inj H
        have p101 : 0 ≤ (x8_1 : Int) := of_decide_eq_true (by first | (with_reducible assumption) | assumption)
        have q101 : x8_1 < (l0.length : Int) := of_decide_eq_true (by first | (with_reducible assumption) | assumption)
        obtain ⟨ad101, e101, hx101_0, hx101_1⟩ := at_T144 HR0.out x8_1 p101 q101
        cases e101
        replace hx101_0 := (HB.out.cell (World.block_lt_of_cell? w _ hx101_0)).trans hx101_0
        replace hx101_1 := (HB.out.cell (World.block_lt_of_cell? w _ hx101_1)).trans hx101_1
        replace p101 := eq_true p101
        replace q101 := eq_true q101
        go_wp2_with (first | ((with_reducible refine gate_dst (N := 5) rfl ?_); refine box_event ?hg (N := 5) ?hd (cs := #[.int .i64 0, .int .i64 0]) (t := 144) ?hr ?_; (case hd => rfl); (case hg => rfl); (case hr => first | (go_simp; done) | (go_simp; rfl)); intro gb102 hg w8 hbox hb; have n0_ := Aside0.mk (below_step (by repeat (first | (with_reducible first | exact HB.out | apply below_alloc | apply pw_below_drewN | apply below_drew1) | exact HB.out)) hb); have n1_ := Aside0.mk (hbox); have n2_ := Aside0.mk ((by rw [hg]; exact (below_size (by repeat (first | (with_reducible first | exact HB.out | apply below_alloc | apply pw_below_drewN | apply below_drew1) | exact HB.out))) : w.heap.size ≤ gb102)); have n3_ := Aside0.mk ((by rw [hg]; exact (below_size (by repeat (first | (with_reducible first | exact HB.out | apply below_alloc | apply pw_below_drewN | apply below_drew1) | exact HB.out))) : w.heap.size ≤ gb102)); clear HB; have HB := n0_; have BK102 := n1_; have GW102 := n2_; have GE102 := n3_; clear n0_ n1_ n2_ n3_; clear hb hbox hg; have hcz9_0 : w8.cell? ⟨gb102, 0, none⟩ = some (.int .i64 0) := (blk_cell BK102.out 0).trans rfl; have hcz9_1 : w8.cell? ⟨gb102, 1, none⟩ = some (.int .i64 0) := (blk_cell BK102.out 1).trans rfl; have hfz9_0 := blk_frozen BK102.out 0; have hfz9_1 := blk_frozen BK102.out 1))
        go_ret
        exact ⟨by first | rfl | (simp [errW_none, errW_some] <;> rfl) | (simp only [← hji6]; first | rfl | (simp [errW_none, errW_some] <;> rfl)) | (simp [*, errW_none, errW_some] <;> rfl), by repeat (first | (with_reducible first | exact HB.out | apply below_alloc | apply pw_below_drewN | apply below_drew1 | refine below_set ?_ GE102.out) | exact HB.out)⟩
       ·rw [if_neg c7] at H
        have c7b0 : decide (400 < (wrap64 ((wrap64 (x3_1 + (wrap64 (1 + (wrap64 (Int.tdiv (ji6) 10)))))) + 1))) = false := decide_eq_false c7
        clear c7
        have H' := Aside0.mk H
        clear H
        have p101 : 0 ≤ (x8_1 : Int) := of_decide_eq_true (by first | (with_reducible assumption) | assumption)
        have q101 : x8_1 < (l0.length : Int) := of_decide_eq_true (by first | (with_reducible assumption) | assumption)
        obtain ⟨ad101, e101, hx101_0, hx101_1⟩ := at_T144 HR0.out x8_1 p101 q101
        cases e101
        replace hx101_0 := (HB.out.cell (World.block_lt_of_cell? w _ hx101_0)).trans hx101_0
        replace hx101_1 := (HB.out.cell (World.block_lt_of_cell? w _ hx101_1)).trans hx101_1
        replace p101 := eq_true p101
        replace q101 := eq_true q101
        go_wp2_with (first | ((with_reducible refine gate_dst (N := 5) rfl ?_); refine box_event ?hg (N := 5) ?hd (cs := #[.int .i64 0, .int .i64 0]) (t := 144) ?hr ?_; (case hd => rfl); (case hg => rfl); (case hr => first | (go_simp; done) | (go_simp; rfl)); intro gb102 hg w10 hbox hb; have n0_ := Aside0.mk (below_step (by repeat (first | (with_reducible first | exact HB.out | apply below_alloc | apply pw_below_drewN | apply below_drew1) | exact HB.out)) hb); have n1_ := Aside0.mk (hbox); have n2_ := Aside0.mk ((by rw [hg]; exact (below_size (by repeat (first | (with_reducible first | exact HB.out | apply below_alloc | apply pw_below_drewN | apply below_drew1) | exact HB.out))) : w.heap.size ≤ gb102)); have n3_ := Aside0.mk ((by rw [hg]; exact (below_size (by repeat (first | (with_reducible first | exact HB.out | apply below_alloc | apply pw_below_drewN | apply below_drew1) | exact HB.out))) : w.heap.size ≤ gb102)); clear HB; have HB := n0_; have BK102 := n1_; have GW102 := n2_; have GE102 := n3_; clear n0_ n1_ n2_ n3_; clear hb hbox hg; have hcz11_0 : w10.cell? ⟨gb102, 0, none⟩ = some (.int .i64 0) := (blk_cell BK102.out 0).trans rfl; have hcz11_1 : w10.cell? ⟨gb102, 1, none⟩ = some (.int .i64 0) := (blk_cell BK102.out 1).trans rfl; have hfz11_0 := blk_frozen BK102.out 0; have hfz11_1 := blk_frozen BK102.out 1))
        go_roundg k1
        case measure => have := HK1.out; omega
        case rel => exact ⟨(wrap64 ((wrap64 (x3_1 + (wrap64 (1 + (wrap64 (Int.tdiv (ji6) 10)))))) + 1)), (wrap64 (x8_1 + 1)), (by first | rfl | (simp; done) | (simp only [← hji6] <;> (first | rfl | simp)) | (simp [*]; done)), (by first | rfl | (simp; done) | (simp [*]; done)), H', ⟨by have := HK1.out; omega⟩, ⟨by repeat (first | (with_reducible first | exact HB.out | apply below_alloc | apply pw_below_drewN | apply below_drew1 | refine below_set ?_ GE102.out) | exact HB.out)⟩⟩
      ·rw [if_neg c5] at H
       have c5b0 : decide (0 < ((rd_T144 l0 x8_1).f1)) = false := decide_eq_false c5
       clear c5
       by_cases c12 : (wrap64 (x3_1 + 1)) > 400
       ·rw [if_pos c12] at H
        have c12b0 : decide (400 < (wrap64 (x3_1 + 1))) = true := decide_eq_true c12
        clear c12
        obtain rfl := Option.some.inj H
        have p101 : 0 ≤ (x8_1 : Int) := of_decide_eq_true (by first | (with_reducible assumption) | assumption)
        have q101 : x8_1 < (l0.length : Int) := of_decide_eq_true (by first | (with_reducible assumption) | assumption)
        obtain ⟨ad101, e101, hx101_0, hx101_1⟩ := at_T144 HR0.out x8_1 p101 q101
        cases e101
        replace hx101_0 := (HB.out.cell (World.block_lt_of_cell? w _ hx101_0)).trans hx101_0
        replace hx101_1 := (HB.out.cell (World.block_lt_of_cell? w _ hx101_1)).trans hx101_1
        replace p101 := eq_true p101
        replace q101 := eq_true q101
        go_wp2_with (first | ((with_reducible refine gate_dst (N := 5) rfl ?_); refine box_event ?hg (N := 5) ?hd (cs := #[.int .i64 0, .int .i64 0]) (t := 144) ?hr ?_; (case hd => rfl); (case hg => rfl); (case hr => first | (go_simp; done) | (go_simp; rfl)); intro gb102 hg w13 hbox hb; have n0_ := Aside0.mk (below_step (by repeat (first | (with_reducible first | exact HB.out | apply below_alloc | apply pw_below_drewN | apply below_drew1) | exact HB.out)) hb); have n1_ := Aside0.mk (hbox); have n2_ := Aside0.mk ((by rw [hg]; exact (below_size (by repeat (first | (with_reducible first | exact HB.out | apply below_alloc | apply pw_below_drewN | apply below_drew1) | exact HB.out))) : w.heap.size ≤ gb102)); have n3_ := Aside0.mk ((by rw [hg]; exact (below_size (by repeat (first | (with_reducible first | exact HB.out | apply below_alloc | apply pw_below_drewN | apply below_drew1) | exact HB.out))) : w.heap.size ≤ gb102)); clear HB; have HB := n0_; have BK102 := n1_; have GW102 := n2_; have GE102 := n3_; clear n0_ n1_ n2_ n3_; clear hb hbox hg; have hcz14_0 : w13.cell? ⟨gb102, 0, none⟩ = some (.int .i64 0) := (blk_cell BK102.out 0).trans rfl; have hcz14_1 : w13.cell? ⟨gb102, 1, none⟩ = some (.int .i64 0) := (blk_cell BK102.out 1).trans rfl; have hfz14_0 := blk_frozen BK102.out 0; have hfz14_1 := blk_frozen BK102.out 1))
        go_ret
        exact ⟨by first | rfl | (simp [errW_none, errW_some] <;> rfl) | (simp [*, errW_none, errW_some] <;> rfl), by repeat (first | (with_reducible first | exact HB.out | apply below_alloc | apply pw_below_drewN | apply below_drew1 | refine below_set ?_ GE102.out) | exact HB.out)⟩
       ·rw [if_neg c12] at H
        have c12b0 : decide (400 < (wrap64 (x3_1 + 1))) = false := decide_eq_false c12
        clear c12
        have H' := Aside0.mk H
        clear H
        have p101 : 0 ≤ (x8_1 : Int) := of_decide_eq_true (by first | (with_reducible assumption) | assumption)
        have q101 : x8_1 < (l0.length : Int) := of_decide_eq_true (by first | (with_reducible assumption) | assumption)
        obtain ⟨ad101, e101, hx101_0, hx101_1⟩ := at_T144 HR0.out x8_1 p101 q101
        cases e101
        replace hx101_0 := (HB.out.cell (World.block_lt_of_cell? w _ hx101_0)).trans hx101_0
        replace hx101_1 := (HB.out.cell (World.block_lt_of_cell? w _ hx101_1)).trans hx101_1
        replace p101 := eq_true p101
        replace q101 := eq_true q101
        go_wp2_with (first | ((with_reducible refine gate_dst (N := 5) rfl ?_); refine box_event ?hg (N := 5) ?hd (cs := #[.int .i64 0, .int .i64 0]) (t := 144) ?hr ?_; (case hd => rfl); (case hg => rfl); (case hr => first | (go_simp; done) | (go_simp; rfl)); intro gb102 hg w15 hbox hb; have n0_ := Aside0.mk (below_step (by repeat (first | (with_reducible first | exact HB.out | apply below_alloc | apply pw_below_drewN | apply below_drew1) | exact HB.out)) hb); have n1_ := Aside0.mk (hbox); have n2_ := Aside0.mk ((by rw [hg]; exact (below_size (by repeat (first | (with_reducible first | exact HB.out | apply below_alloc | apply pw_below_drewN | apply below_drew1) | exact HB.out))) : w.heap.size ≤ gb102)); have n3_ := Aside0.mk ((by rw [hg]; exact (below_size (by repeat (first | (with_reducible first | exact HB.out | apply below_alloc | apply pw_below_drewN | apply below_drew1) | exact HB.out))) : w.heap.size ≤ gb102)); clear HB; have HB := n0_; have BK102 := n1_; have GW102 := n2_; have GE102 := n3_; clear n0_ n1_ n2_ n3_; clear hb hbox hg; have hcz16_0 : w15.cell? ⟨gb102, 0, none⟩ = some (.int .i64 0) := (blk_cell BK102.out 0).trans rfl; have hcz16_1 : w15.cell? ⟨gb102, 1, none⟩ = some (.int .i64 0) := (blk_cell BK102.out 1).trans rfl; have hfz16_0 := blk_frozen BK102.out 0; have hfz16_1 := blk_frozen BK102.out 1))
        go_roundg k1
        case measure => have := HK1.out; omega
        case rel => exact ⟨(wrap64 (x3_1 + 1)), (wrap64 (x8_1 + 1)), (by first | rfl | (simp; done) | (simp [*]; done)), (by first | rfl | (simp; done) | (simp [*]; done)), H', ⟨by have := HK1.out; omega⟩, ⟨by repeat (first | (with_reducible first | exact HB.out | apply below_alloc | apply pw_below_drewN | apply below_drew1 | refine below_set ?_ GE102.out) | exact HB.out)⟩⟩
     ·rw [if_neg c4] at H
      exact absurd H (by simp)
    ·rw [if_neg c3] at H
     exact absurd H (by simp)
   ·rw [if_neg c2] at H
    have c2b0 : decide (x8_1 < (l0.length : Int)) = false := decide_eq_false c2
    clear c2
    obtain rfl := Option.some.inj H
    go_wp2
    go_ret
    exact ⟨by first | rfl | (simp [errW_none, errW_some] <;> rfl) | (simp [*, errW_none, errW_some] <;> rfl), by repeat (first | (with_reducible first | exact HB.out | apply below_alloc | apply pw_below_drewN | apply below_drew1) | exact HB.out)⟩
end Go.Proofs.Ytacgeafjilipdaa.P
namespace Go.Proofs.Ytacgeafjilipdaa.P
open Go.RowKit Go.Proofs.YtacgeafjilipdaaW.PrintWords Go.Proofs.YtacgeafjilipdaaW.PrintLast Go.Proofs.YtacgeafjilipdaaW.PrintMore
attribute [local go_sem] max2_int min2_int max_two min_two max_three min_three max_four min_four
set_option linter.unusedVariables false
set_option linter.unusedSimpArgs false
def tidepolelaw11_spans.l0 : Nat → List (S147) → List (S144) → Int → Int → Option ((List (S147)))
 | 0, _, _, _, _ => none
 | k + 1, x3, x6, x7, x8 => if x8 < x7 then (if 0 ≤ x8 then (if x8 < (x6.length : Int) then (if x3.length < 8796093022208 then (tidepolelaw11_spans.l0 k (x3 ++ [(⟨(rd_T144 x6 x8).f0, (rd_T144 x6 x8).f1⟩ : S147)]) x6 x7 (wrap64 (x8 + 1))) else (none)) else (none)) else (none)) else (some x3)
def tidepolelaw11_spans.f (k : Nat) (l0 : List (S144)) : Option ((List (S147))) := tidepolelaw11_spans.l0 k ([] : List (S147)) l0 (l0.length : Int) 0
set_option maxHeartbeats 8000000 in
set_option maxRecDepth 100000 in
theorem tidepolelaw11_spans.calls (k : Nat) (A0 : Option Addr) (c0 : Nat) (l0 : List (S144)) (r : List (S147)) (w : World) (hr0 : Kd.C k144 w A0 l0.length l0) (hc0 : l0.length ≤ c0) (h : tidepolelaw11_spans.f k l0 = some r) :
  Calls Try.prog 139 #[.slice A0 l0.length c0] w fun e w' => ∃ v0_ : Value, e = .returned (v0_) ∧ Kd.R k147 147 w' w.heap.size (fun _ => True) v0_ r ∧ Below w.heap.size w w' := by
 have hu144 := Try.underlying144
 have hu147 := Try.underlying147
 have HR0 := Aside0.mk hr0
 have HC0 := Aside0.mk hc0
 clear hr0 hc0
 have HB := Aside0.mk (Below.refl w.heap.size w)
 have H : (tidepolelaw11_spans.l0 k ([] : List (S147)) l0 (l0.length : Int) 0) = some r := h
 clear h
 have H' := Aside0.mk H
 clear H
 go_enter Try.func139, Try.ntmps139
 go_wp2
 go_loopg [3, 8] k (fun kq v3 v8 w' => ∃ (x3_1 : List (S147)) (x8_1 : Int), v8 = .int .i64 x8_1 ∧ Aside0 (tidepolelaw11_spans.l0 kq x3_1 l0 (l0.length : Int) x8_1 = some r) ∧ Aside0 (kq ≤ k) ∧ Aside0 (Kd.R k147 147 w' w.heap.size (fun _ => True) v3 x3_1) ∧ Aside0 (Below w.heap.size w w'))
 case atStart => exact ⟨(([] : List (S147))), (0), (by first | rfl | (simp; done) | (simp [*]; done)), H', ⟨Nat.le_refl _⟩, ⟨by first | exact Kd.R_nil _ _ _ _ _ | exact Kd.N_nil _ _ _ _ _ | exact Kd.V_nil _ _ _ _ _ | exact Kd.Q_nil _ _ _ _ _ | exact Kd.S_nil _ _ _ _ _⟩, ⟨by repeat (first | (with_reducible first | exact HB.out | apply below_alloc | apply pw_below_drewN | apply below_drew1) | exact HB.out)⟩⟩
 case round =>
  clear H'
  try clear c1
  obtain ⟨x3_1, x8_1, rfl, HA, HK1, HO_3, HB⟩ := hrel
  cases gk with
  | zero => exact absurd HA.out (by simp [tidepolelaw11_spans.l0])
  | succ k1 =>
   have H := HA.out
   clear HA
   simp only [tidepolelaw11_spans.l0] at H
   by_cases c2 : x8_1 < (l0.length : Int)
   ·rw [if_pos c2] at H
    have c2b0 : decide (x8_1 < (l0.length : Int)) = true := decide_eq_true c2
    clear c2
    by_cases c3 : 0 ≤ x8_1
    ·rw [if_pos c3] at H
     have c3b0 : decide (0 ≤ x8_1) = true := decide_eq_true c3
     clear c3
     by_cases c4 : x8_1 < (l0.length : Int)
     ·rw [if_pos c4] at H
      have c4b0 : decide (x8_1 < (l0.length : Int)) = true := decide_eq_true c4
      clear c4
      by_cases c5 : x3_1.length < 8796093022208
      ·rw [if_pos c5] at H
       have LMc5 := Aside0.mk c5
       clear c5
       obtain ⟨y103, hy103⟩ : ∃ y_ : List (S147), y_ = (x3_1 ++ [(⟨(rd_T144 l0 x8_1).f0, (rd_T144 l0 x8_1).f1⟩ : S147)]) := ⟨_, rfl⟩
       replace H : (tidepolelaw11_spans.l0 k1 y103 l0 (l0.length : Int) (wrap64 (x8_1 + 1))) = some r := by first | (rw [hy103]; with_reducible exact H) | (have H2_ := (Option.bind_some _ _).symm.trans H; rw [hy103]; with_reducible exact H2_) | (have H2_ := (Option.bind_some _ _).symm.trans H; with_reducible exact H2_) | with_reducible exact H | (rw [hy103]; exact H) | exact H
       have Ny103 := Aside0.mk hy103
       clear hy103
       have H' := Aside0.mk H
       clear H
       have p101 : 0 ≤ (x8_1 : Int) := of_decide_eq_true (by first | (with_reducible assumption) | assumption)
       have q101 : x8_1 < (l0.length : Int) := of_decide_eq_true (by first | (with_reducible assumption) | assumption)
       obtain ⟨ad101, e101, hx101_0, hx101_1⟩ := at_T144 HR0.out x8_1 p101 q101
       cases e101
       replace hx101_0 := (HB.out.cell (World.block_lt_of_cell? w _ hx101_0)).trans hx101_0
       replace hx101_1 := (HB.out.cell (World.block_lt_of_cell? w _ hx101_1)).trans hx101_1
       replace p101 := eq_true p101
       replace q101 := eq_true q101
       go_wp2_with (first | ((with_reducible refine gate_dst (N := 5) rfl ?_); refine box_event ?hg (N := 5) ?hd (cs := #[.int .i64 0, .int .i64 0]) (t := 144) ?hr ?_; (case hd => rfl); (case hg => rfl); (case hr => first | (go_simp; done) | (go_simp; rfl)); intro gb102 hg w6 hbox hb; have n0_ := Aside0.mk (Kd.R_below (by (with_reducible repeat (first | apply Kd.R_alloc | apply Kd.R_drewN | apply Kd.R_drew)); exact HO_3.out) hb); have n1_ := Aside0.mk (below_step (by repeat (first | (with_reducible first | exact HB.out | apply below_alloc | apply pw_below_drewN | apply below_drew1) | exact HB.out)) hb); have n2_ := Aside0.mk (hbox); have n3_ := Aside0.mk ((by rw [hg]; exact (below_size (by repeat (first | (with_reducible first | exact HB.out | apply below_alloc | apply pw_below_drewN | apply below_drew1) | exact HB.out))) : w.heap.size ≤ gb102)); have n4_ := Aside0.mk ((by rw [hg]; exact (below_size (by repeat (first | (with_reducible first | exact HB.out | apply below_alloc | apply pw_below_drewN | apply below_drew1) | exact HB.out))) : w.heap.size ≤ gb102)); clear HO_3; clear HB; have HO_3 := n0_; have HB := n1_; have BK102 := n2_; have GW102 := n3_; have GE102 := n4_; clear n0_ n1_ n2_ n3_ n4_; clear hb hbox hg; have hcz7_0 : w6.cell? ⟨gb102, 0, none⟩ = some (.int .i64 0) := (blk_cell BK102.out 0).trans rfl; have hcz7_1 : w6.cell? ⟨gb102, 1, none⟩ = some (.int .i64 0) := (blk_cell BK102.out 1).trans rfl; have hfz7_0 := blk_frozen BK102.out 0; have hfz7_1 := blk_frozen BK102.out 1) | ((with_reducible refine gate_builtin (b := .append) (xs := #[.tmp 12, .tmp 18]) rfl ?_); at_builtin; refine Kd.R_append k147 (w0 := w) w.heap.size rfl (.tmp 12) (.tmp 18) 35 147 (.agg #[(.int .i64 0), (.int .i64 0)]) 16 rfl Try.underlying35 info147 rfl (by decide) (by omega) u3 x3_1 (⟨(rd_T144 l0 x8_1).f0, (rd_T144 l0 x8_1).f1⟩ : S147) [.int .i64 ((rd_T144 l0 x8_1).f0), .int .i64 ((rd_T144 l0 x8_1).f1)] (fun _ => True) (fun _ => False) rfl (by first | (go_simp; done) | (go_simp; rfl)) ?aP (fun _ hk => hk.elim) ?aF ?aO ?aB ?aS ?aL ?_; (case aP => exact k147_mkM _ _ _ (⟨(rd_T144 l0 x8_1).f0, (rd_T144 l0 x8_1).f1⟩ : S147)); (case aB => exact (by repeat (first | (with_reducible first | exact HB.out | apply below_alloc | apply pw_below_drewN | apply below_drew1 | refine below_set ?_ GE102.out) | exact HB.out))); (case aF => exact (fun _ _ => trivial)); (case aO => exact (by (with_reducible repeat (first | apply Kd.R_alloc | apply Kd.R_drewN | apply Kd.R_drew)); exact Kd.R_mono (Kd.R_far (p := ⟨gb102, 1, none⟩) (Kd.R_far (p := ⟨gb102, 0, none⟩) (Kd.R_types HO_3.out BK102.out (by decide)) (fun _ hk => hk.2) (.int .i64 ((rd_T144 l0 x8_1).f0))) (fun _ hk => hk.2) (.int .i64 ((rd_T144 l0 x8_1).f1))) (fun _ hk => trivial))); (case aS => exact (below_size (by repeat (first | (with_reducible first | exact HB.out | apply below_alloc | apply pw_below_drewN | apply below_drew1 | refine below_set ?_ GE102.out) | exact HB.out)))); (case aL => have := LMc5.out; omega); intro v104 w8 ho hb hg hat; rw [← Ny103.out] at ho; have n0_ := Aside0.mk (blk_grown (g := gb102) (o := .cells #[.int .i64 ((rd_T144 l0 x8_1).f0), .int .i64 ((rd_T144 l0 x8_1).f1)] 144 (0, 0)) (by (with_reducible repeat (first | refine blk_drewN ?_ _ | refine blk_drew ?_ | refine blk_alloc ?_ _)); refine blk_put (cs := #[.int .i64 ((rd_T144 l0 x8_1).f0), .int .i64 0]) ?_ 1 _ rfl; (with_reducible repeat (first | refine blk_drewN ?_ _ | refine blk_drew ?_ | refine blk_alloc ?_ _)); refine blk_put (cs := #[.int .i64 0, .int .i64 0]) ?_ 0 _ rfl; (with_reducible repeat (first | refine blk_drewN ?_ _ | refine blk_drew ?_ | refine blk_alloc ?_ _)); exact BK102.out) hg (Kd.R_ne HO_3.out BK102.out (by decide))); have n1_ := Aside0.mk (hb); have n2_ := Aside0.mk (ho); clear BK102; clear HB; clear HO_3; have BK102 := n0_; have HB := n1_; have HO105 := n2_; clear n0_ n1_ n2_; clear ho hb hg hat))
       go_roundg k1
       case measure => have := HK1.out; omega
       case rel => exact ⟨(y103), (wrap64 (x8_1 + 1)), (by first | rfl | (simp; done) | (simp [*]; done)), H', ⟨by have := HK1.out; omega⟩, ⟨by (with_reducible repeat (first | apply Kd.R_alloc | apply Kd.R_drewN | apply Kd.R_drew)); exact HO105.out⟩, ⟨by repeat (first | (with_reducible first | exact HB.out | apply below_alloc | apply pw_below_drewN | apply below_drew1 | refine below_set ?_ GE102.out) | exact HB.out)⟩⟩
      ·rw [if_neg c5] at H
       exact absurd H (by simp)
     ·rw [if_neg c4] at H
      exact absurd H (by simp)
    ·rw [if_neg c3] at H
     exact absurd H (by simp)
   ·rw [if_neg c2] at H
    have c2b0 : decide (x8_1 < (l0.length : Int)) = false := decide_eq_false c2
    clear c2
    obtain rfl := Option.some.inj H
    go_wp2
    go_ret
    exact ⟨_, by first | rfl | (simp [errW_none, errW_some] <;> rfl) | (simp [*, errW_none, errW_some] <;> rfl), by (with_reducible repeat (first | apply Kd.R_alloc | apply Kd.R_drewN | apply Kd.R_drew)); exact HO_3.out, by repeat (first | (with_reducible first | exact HB.out | apply below_alloc | apply pw_below_drewN | apply below_drew1) | exact HB.out)⟩
def tidepolelaw11_floats.f (k : Nat) (a0_0 : Int) (a0_1 : Int) (a0_2 : Int) (a0_3 : Int) (a0_4 : Int) (l0_5 : List (S144)) (l0_6 : List (S144)) (l0_7 : List Int) (l0_8 : List Int) : Option (Int × Int × Int × Int × Int × (List (S147)) × (List (S147)) × List Int × List Int) := (tidepolelaw11_spans.f k l0_5).bind fun t103 => ((tidepolelaw11_spans.f k l0_6).bind fun t106 => (some (a0_0, a0_1, a0_2, a0_3, a0_4, t103, t106, l0_7, l0_8)))
def tidepolelaw11_floats.T1 : Bool × List (List Nat × List Nat) := (true, [([], []), ([0], [0]), ([], []), ([2], [2]), ([], []), ([4], [4]), ([], []), ([6], [6]), ([], []), ([8], [8]), ([], []), ([10], [10]), ([11], [11]), ([], []), ([13], [13]), ([14, 12], [14]), ([], []), ([16], [16]), ([], []), ([18], [18]), ([1, 3, 5, 7, 9, 12, 15, 17, 19], [1, 3, 5, 7, 9, 12, 15, 17, 19]), ([20, 15, 0, 1, 2, 3, 4, 5, 6, 7, 8, 9, 10, 11, 12, 13, 14, 15, 16, 17, 18, 19, 20], [20])])
def tidepolelaw11_floats.B1 : List Nat := [0, 1, 0, 4, 0, 16, 0, 64, 0, 256, 0, 1024, 3072, 0, 8192, 31744, 0, 65536, 0, 262144, 1048575, 2097151]
theorem tidepolelaw11_floats.tab1 : rtab .any (opsOf Try.f64 1) = tidepolelaw11_floats.T1 := by kernel_rfl
theorem tidepolelaw11_floats.bits1 : waitsOk tidepolelaw11_floats.T1.2 tidepolelaw11_floats.B1 = true := by kernel_rfl
set_option maxHeartbeats 8000000 in
set_option maxRecDepth 100000 in
theorem tidepolelaw11_floats.calls (k : Nat) (a0_0 : Int) (a0_1 : Int) (a0_2 : Int) (a0_3 : Int) (a0_4 : Int) (A0_5 : Option Addr) (c0_5 : Nat) (l0_5 : List (S144)) (A0_6 : Option Addr) (c0_6 : Nat) (l0_6 : List (S144)) (P0_7_ : Nat → Prop) (A0_7 : Option Addr) (c0_7 : Nat) (l0_7 : List Int) (P0_8_ : Nat → Prop) (A0_8 : Option Addr) (c0_8 : Nat) (l0_8 : List Int) (r1 : Int) (r2 : Int) (r3 : Int) (r4 : Int) (r5 : Int) (r6 : List (S147)) (r7 : List (S147)) (r8 : List Int) (r9 : List Int) (w : World) (hr0_5 : Kd.C k144 w A0_5 l0_5.length l0_5) (hc0_5 : l0_5.length ≤ c0_5) (hr0_6 : Kd.C k144 w A0_6 l0_6.length l0_6) (hc0_6 : l0_6.length ≤ c0_6) (hs0_7 : Kd.V (Kd.int .u64) 62 w w.heap.size (fun k_ => P0_7_ k_) (.slice A0_7 l0_7.length c0_7) l0_7) (hs0_8 : Kd.V (Kd.int .u64) 62 w w.heap.size (fun k_ => P0_8_ k_) (.slice A0_8 l0_8.length c0_8) l0_8) (h : tidepolelaw11_floats.f k a0_0 a0_1 a0_2 a0_3 a0_4 l0_5 l0_6 l0_7 l0_8 = some (r1, r2, r3, r4, r5, r6, r7, r8, r9)) :
  Calls Try.prog 64 #[.agg #[.int .i64 a0_0, .int .u64 a0_1, .int .u64 a0_2, .int .u64 a0_3, .int .u64 a0_4, .slice A0_5 l0_5.length c0_5, .slice A0_6 l0_6.length c0_6, .slice A0_7 l0_7.length c0_7, .slice A0_8 l0_8.length c0_8]] w fun e w' => ∃ v5_ v6_ v7_ v8_ : Value, e = .returned (.agg #[.int .i64 r1, .int .u64 r2, .int .u64 r3, .int .u64 r4, .int .u64 r5, v5_, v6_, v7_, v8_]) ∧ Kd.R k147 147 w' w.heap.size (fun k_ => (w.heap.size ≤ k_) ∧ some k_ ≠ (v6_ : Value).ownBlock) v5_ r6 ∧ Kd.R k147 147 w' w.heap.size (fun k_ => (w.heap.size ≤ k_) ∧ some k_ ≠ (v5_ : Value).ownBlock) v6_ r7 ∧ Kd.V (Kd.int .u64) 62 w' w.heap.size (fun k_ => ((P0_7_ k_ ∨ P0_8_ k_) ∨ w.heap.size ≤ k_) ∧ some k_ ≠ (v5_ : Value).ownBlock ∧ some k_ ≠ (v6_ : Value).ownBlock) v7_ r8 ∧ Kd.V (Kd.int .u64) 62 w' w.heap.size (fun k_ => ((P0_7_ k_ ∨ P0_8_ k_) ∨ w.heap.size ≤ k_) ∧ some k_ ≠ (v5_ : Value).ownBlock ∧ some k_ ≠ (v6_ : Value).ownBlock) v8_ r9 ∧ Below w.heap.size w w' := by
 have hu79 := Try.underlying79
 have hu84 := Try.underlying84
 have HR0_5 := Aside0.mk hr0_5
 have HC0_5 := Aside0.mk hc0_5
 clear hr0_5 hc0_5
 have HR0_6 := Aside0.mk hr0_6
 have HC0_6 := Aside0.mk hc0_6
 clear hr0_6 hc0_6
 have HO0_7 := Aside0.mk (show Kd.V (Kd.int .u64) 62 w w.heap.size (fun k_ => ((P0_7_ k_ ∨ P0_8_ k_) ∨ w.heap.size ≤ k_)) (.slice A0_7 l0_7.length c0_7) l0_7 from Kd.V_mono hs0_7 (fun k_ hk => .inl (.inl hk)))
 have HO0_8 := Aside0.mk (show Kd.V (Kd.int .u64) 62 w w.heap.size (fun k_ => ((P0_7_ k_ ∨ P0_8_ k_) ∨ w.heap.size ≤ k_)) (.slice A0_8 l0_8.length c0_8) l0_8 from Kd.V_mono hs0_8 (fun k_ hk => .inl (.inr hk)))
 have HB := Aside0.mk (Below.refl w.heap.size w)
 have H : ((tidepolelaw11_spans.f k l0_5).bind fun t103 => ((tidepolelaw11_spans.f k l0_6).bind fun t106 => (some (a0_0, a0_1, a0_2, a0_3, a0_4, t103, t106, l0_7, l0_8)))) = some (r1, r2, r3, r4, r5, r6, r7, r8, r9) := h
 clear h
 replace H := Option.bind_eq_some_iff.mp H
 obtain ⟨t103, A20, H⟩ := H
 replace H : ((tidepolelaw11_spans.f k l0_6).bind fun t106 => (some (a0_0, a0_1, a0_2, a0_3, a0_4, t103, t106, l0_7, l0_8))) = some (r1, r2, r3, r4, r5, r6, r7, r8, r9) := H
 have A2 := Aside0.mk A20
 clear A20
 replace H := Option.bind_eq_some_iff.mp H
 obtain ⟨t106, A30, H⟩ := H
 replace H : (some (a0_0, a0_1, a0_2, a0_3, a0_4, t103, t106, l0_7, l0_8)) = some (r1, r2, r3, r4, r5, r6, r7, r8, r9) := H
 have A3 := Aside0.mk A30
 clear A30
 simp only [Option.some.injEq, Prod.mk.injEq] at H
 obtain ⟨rfl, rfl, rfl, rfl, rfl, rfl, rfl, rfl, rfl⟩ := H
 go_enter Try.func64, Try.ntmps64
 try go_wp2_with (first | ((with_reducible refine gate_dst (N := 1) rfl ?_); refine box_event ?hg (N := 1) ?hd (cs := #[.int .i64 a0_0, .int .u64 a0_1, .int .u64 a0_2, .int .u64 a0_3, .int .u64 a0_4, .slice A0_5 l0_5.length c0_5, .slice A0_6 l0_6.length c0_6, .slice A0_7 l0_7.length c0_7, .slice A0_8 l0_8.length c0_8]) (t := 79) ?hr ?_; (case hd => rfl); (case hg => rfl); (case hr => first | (go_simp; done) | (go_simp; rfl)); intro gb101 hg w4 hbox hb; have n0_ := Aside0.mk (Kd.V_below (Kd.V_elderB (by (with_reducible repeat (first | apply Kd.V_alloc | apply Kd.V_drewN | apply Kd.V_drew)); exact HO0_7.out) gb101 (Nat.le_of_eq hg.symm)) hb); have n1_ := Aside0.mk (Kd.V_below (Kd.V_elderB (by (with_reducible repeat (first | apply Kd.V_alloc | apply Kd.V_drewN | apply Kd.V_drew)); exact HO0_8.out) gb101 (Nat.le_of_eq hg.symm)) hb); have n2_ := Aside0.mk (below_step (by repeat (first | (with_reducible first | exact HB.out | apply below_alloc | apply pw_below_drewN | apply below_drew1) | exact HB.out)) hb); have n3_ := Aside0.mk (hbox); have n4_ := Aside0.mk ((by rw [hg]; exact (below_size (by repeat (first | (with_reducible first | exact HB.out | apply below_alloc | apply pw_below_drewN | apply below_drew1) | exact HB.out))) : w.heap.size ≤ gb101)); have n5_ := Aside0.mk ((by rw [hg]; exact (below_size (by repeat (first | (with_reducible first | exact HB.out | apply below_alloc | apply pw_below_drewN | apply below_drew1) | exact HB.out))) : w.heap.size ≤ gb101)); clear HO0_7; clear HO0_8; clear HB; have HO0_7 := n0_; have HO0_8 := n1_; have HB := n2_; have BK101 := n3_; have GW101 := n4_; have GE101 := n5_; clear n0_ n1_ n2_ n3_ n4_ n5_; clear hb hbox hg) | ((with_reducible refine gate_dst (N := 2) rfl ?_); refine box_event ?hg (N := 2) ?hd (cs := #[.int .i64 0, .int .u64 0, .int .u64 0, .int .u64 0, .int .u64 0, .slice none 0 0, .slice none 0 0, .slice none 0 0, .slice none 0 0]) (t := 84) ?hr ?_; (case hd => rfl); (case hg => rfl); (case hr => first | (go_simp; done) | (go_simp; rfl)); intro gb102 hg w5 hbox hb; have n0_ := Aside0.mk (Kd.V_below (Kd.V_elderB (by (with_reducible repeat (first | apply Kd.V_alloc | apply Kd.V_drewN | apply Kd.V_drew)); exact HO0_7.out) gb102 (Nat.le_of_eq hg.symm)) hb); have n1_ := Aside0.mk (Kd.V_below (Kd.V_elderB (by (with_reducible repeat (first | apply Kd.V_alloc | apply Kd.V_drewN | apply Kd.V_drew)); exact HO0_8.out) gb102 (Nat.le_of_eq hg.symm)) hb); have n2_ := Aside0.mk (blk_below (g := gb101) (o := .cells #[.int .i64 a0_0, .int .u64 a0_1, .int .u64 a0_2, .int .u64 a0_3, .int .u64 a0_4, .slice A0_5 l0_5.length c0_5, .slice A0_6 l0_6.length c0_6, .slice A0_7 l0_7.length c0_7, .slice A0_8 l0_8.length c0_8] 79 (0, 0)) (by (with_reducible repeat (first | refine blk_drewN ?_ _ | refine blk_drew ?_ | refine blk_alloc ?_ _)); exact BK101.out) hb); have n3_ := Aside0.mk (below_step (by repeat (first | (with_reducible first | exact HB.out | apply below_alloc | apply pw_below_drewN | apply below_drew1 | refine below_set ?_ GE101.out) | exact HB.out)) hb); have n4_ := Aside0.mk (hbox); have n5_ := Aside0.mk ((by rw [hg]; exact (below_size (by repeat (first | (with_reducible first | exact HB.out | apply below_alloc | apply pw_below_drewN | apply below_drew1 | refine below_set ?_ GE101.out) | exact HB.out))) : w.heap.size ≤ gb102)); have n6_ := Aside0.mk ((by rw [hg]; exact (below_size (by repeat (first | (with_reducible first | exact HB.out | apply below_alloc | apply pw_below_drewN | apply below_drew1 | refine below_set ?_ GE101.out) | exact HB.out))) : w.heap.size ≤ gb102)); have n7_ := Aside0.mk ((by rw [hg]; exact Nat.ne_of_lt (blk_lt (g := gb101) (o := .cells #[.int .i64 a0_0, .int .u64 a0_1, .int .u64 a0_2, .int .u64 a0_3, .int .u64 a0_4, .slice A0_5 l0_5.length c0_5, .slice A0_6 l0_6.length c0_6, .slice A0_7 l0_7.length c0_7, .slice A0_8 l0_8.length c0_8] 79 (0, 0)) (by (with_reducible repeat (first | refine blk_drewN ?_ _ | refine blk_drew ?_ | refine blk_alloc ?_ _)); exact BK101.out)) : gb101 ≠ gb102)); have n8_ := Aside0.mk ((by rw [hg]; exact Nat.ne_of_gt (blk_lt (g := gb101) (o := .cells #[.int .i64 a0_0, .int .u64 a0_1, .int .u64 a0_2, .int .u64 a0_3, .int .u64 a0_4, .slice A0_5 l0_5.length c0_5, .slice A0_6 l0_6.length c0_6, .slice A0_7 l0_7.length c0_7, .slice A0_8 l0_8.length c0_8] 79 (0, 0)) (by (with_reducible repeat (first | refine blk_drewN ?_ _ | refine blk_drew ?_ | refine blk_alloc ?_ _)); exact BK101.out)) : gb102 ≠ gb101)); clear HO0_7; clear HO0_8; clear BK101; clear HB; have HO0_7 := n0_; have HO0_8 := n1_; have BK101 := n2_; have HB := n3_; have BK102 := n4_; have GW102 := n5_; have GE102 := n6_; have NB101_102 := n7_; have NB102_101 := n8_; clear n0_ n1_ n2_ n3_ n4_ n5_ n6_ n7_ n8_; clear hb hbox hg))
 have n0_ := Aside0.mk (Kd.V_drew HO0_7.out)
 have n1_ := Aside0.mk (Kd.V_drew HO0_8.out)
 have n2_ := Aside0.mk (blk_drew BK101.out)
 have n3_ := Aside0.mk (blk_drew BK102.out)
 have n4_ := Aside0.mk (below_drew1 HB.out)
 clear HO0_7
 clear HO0_8
 clear BK101
 clear BK102
 clear HB
 have HO0_7 := n0_
 have HO0_8 := n1_
 have BK101 := n2_
 have BK102 := n3_
 have HB := n4_
 clear n0_ n1_ n2_ n3_ n4_
 refine start_ (n := 22) (S := fun w' => w'.cell? ⟨gb101, 0, none⟩ = some (.int .i64 a0_0) ∧ w'.cell? ⟨gb101, 1, none⟩ = some (.int .u64 a0_1) ∧ w'.cell? ⟨gb101, 2, none⟩ = some (.int .u64 a0_2) ∧ w'.cell? ⟨gb101, 3, none⟩ = some (.int .u64 a0_3) ∧ w'.cell? ⟨gb101, 4, none⟩ = some (.int .u64 a0_4) ∧ w'.cell? ⟨gb101, 5, none⟩ = some (.slice A0_5 l0_5.length c0_5) ∧ w'.cell? ⟨gb101, 6, none⟩ = some (.slice A0_6 l0_6.length c0_6) ∧ w'.cell? ⟨gb101, 7, none⟩ = some (.slice A0_7 l0_7.length c0_7) ∧ w'.cell? ⟨gb101, 8, none⟩ = some (.slice A0_8 l0_8.length c0_8)) (ds := []) #[false, false, false, false, false, false, false, false, false, false, false, false, false, false, false, false, false, false, false, false, false, false] (by kernel_rfl) rfl rfl ⟨(blk_cell BK101.out 0).trans rfl, (blk_cell BK101.out 1).trans rfl, (blk_cell BK101.out 2).trans rfl, (blk_cell BK101.out 3).trans rfl, (blk_cell BK101.out 4).trans rfl, (blk_cell BK101.out 5).trans rfl, (blk_cell BK101.out 6).trans rfl, (blk_cell BK101.out 7).trans rfl, (blk_cell BK101.out 8).trans rfl⟩ (fun hHeld => ?_); refine with_tabW tidepolelaw11_floats.tab1 tidepolelaw11_floats.bits1 (fun HT_ HW_ => ?_)
 generalize w5.drew = w6 at HO0_7 HO0_8 BK101 BK102 HB hHeld ⊢
 refine pure_ (i := 0) (N := some 3) (v := ?_) (a' := ?_) #[true, false, false, false, false, false, false, false, false, false, false, false, false, false, false, false, false, false, false, false, false, false] rfl rfl (any_of HT_.out (by kernel_rfl)) (fun _ _ _ h => h) (Or.inl ⟨by rfl, ?_⟩) ?_ ?_
 rotate_left
 ·intro w'
  go_simp
  with_reducible rfl
 rotate_left
 ·simp only [Act.put, List.setIfInBounds_toArray, List.set_cons_zero, List.set_cons_succ, i64_w, i32_w]
  rfl
 refine pure_ (i := 2) (N := some 5) (v := ?_) (a' := ?_) #[true, false, true, false, false, false, false, false, false, false, false, false, false, false, false, false, false, false, false, false, false, false] rfl rfl (any_of HT_.out (by kernel_rfl)) (fun _ _ _ h => h) (Or.inl ⟨by rfl, ?_⟩) ?_ ?_
 rotate_left
 ·intro w'
  go_simp
  with_reducible rfl
 rotate_left
 ·simp only [Act.put, List.setIfInBounds_toArray, List.set_cons_zero, List.set_cons_succ, i64_w, i32_w]
  rfl
 refine pure_ (i := 4) (N := some 7) (v := ?_) (a' := ?_) #[true, false, true, false, true, false, false, false, false, false, false, false, false, false, false, false, false, false, false, false, false, false] rfl rfl (any_of HT_.out (by kernel_rfl)) (fun _ _ _ h => h) (Or.inl ⟨by rfl, ?_⟩) ?_ ?_
 rotate_left
 ·intro w'
  go_simp
  with_reducible rfl
 rotate_left
 ·simp only [Act.put, List.setIfInBounds_toArray, List.set_cons_zero, List.set_cons_succ, i64_w, i32_w]
  rfl
 refine pure_ (i := 6) (N := some 9) (v := ?_) (a' := ?_) #[true, false, true, false, true, false, true, false, false, false, false, false, false, false, false, false, false, false, false, false, false, false] rfl rfl (any_of HT_.out (by kernel_rfl)) (fun _ _ _ h => h) (Or.inl ⟨by rfl, ?_⟩) ?_ ?_
 rotate_left
 ·intro w'
  go_simp
  with_reducible rfl
 rotate_left
 ·simp only [Act.put, List.setIfInBounds_toArray, List.set_cons_zero, List.set_cons_succ, i64_w, i32_w]
  rfl
 refine pure_ (i := 8) (N := some 11) (v := ?_) (a' := ?_) #[true, false, true, false, true, false, true, false, true, false, false, false, false, false, false, false, false, false, false, false, false, false] rfl rfl (any_of HT_.out (by kernel_rfl)) (fun _ _ _ h => h) (Or.inl ⟨by rfl, ?_⟩) ?_ ?_
 rotate_left
 ·intro w'
  go_simp
  with_reducible rfl
 rotate_left
 ·simp only [Act.put, List.setIfInBounds_toArray, List.set_cons_zero, List.set_cons_succ, i64_w, i32_w]
  rfl
 refine pure_ (i := 10) (N := some 13) (v := ?_) (a' := ?_) #[true, false, true, false, true, false, true, false, true, false, true, false, false, false, false, false, false, false, false, false, false, false] rfl rfl (any_of HT_.out (by kernel_rfl)) (fun _ _ _ h => h) (Or.inl ⟨by rfl, ?_⟩) ?_ ?_
 rotate_left
 ·intro w'
  go_simp
  with_reducible rfl
 rotate_left
 ·simp only [Act.put, List.setIfInBounds_toArray, List.set_cons_zero, List.set_cons_succ, i64_w, i32_w]
  rfl
 refine pure_ (i := 13) (N := some 16) (v := ?_) (a' := ?_) #[true, false, true, false, true, false, true, false, true, false, true, false, false, true, false, false, false, false, false, false, false, false] rfl rfl (any_of HT_.out (by kernel_rfl)) (fun _ _ _ h => h) (Or.inl ⟨by rfl, ?_⟩) ?_ ?_
 rotate_left
 ·intro w'
  go_simp
  with_reducible rfl
 rotate_left
 ·simp only [Act.put, List.setIfInBounds_toArray, List.set_cons_zero, List.set_cons_succ, i64_w, i32_w]
  rfl
 refine pure_ (i := 16) (N := some 19) (v := ?_) (a' := ?_) #[true, false, true, false, true, false, true, false, true, false, true, false, false, true, false, false, true, false, false, false, false, false] rfl rfl (any_of HT_.out (by kernel_rfl)) (fun _ _ _ h => h) (Or.inl ⟨by rfl, ?_⟩) ?_ ?_
 rotate_left
 ·intro w'
  go_simp
  with_reducible rfl
 rotate_left
 ·simp only [Act.put, List.setIfInBounds_toArray, List.set_cons_zero, List.set_cons_succ, i64_w, i32_w]
  rfl
 refine pure_ (i := 18) (N := some 21) (v := ?_) (a' := ?_) #[true, false, true, false, true, false, true, false, true, false, true, false, false, true, false, false, true, false, true, false, false, false] rfl rfl (any_of HT_.out (by kernel_rfl)) (fun _ _ _ h => h) (Or.inl ⟨by rfl, ?_⟩) ?_ ?_
 rotate_left
 ·intro w'
  go_simp
  with_reducible rfl
 rotate_left
 ·simp only [Act.put, List.setIfInBounds_toArray, List.set_cons_zero, List.set_cons_succ, i64_w, i32_w]
  rfl
 refine take_ (i := 1) (N := some 4) (v := ?_) (a' := ?_) #[true, true, true, false, true, false, true, false, true, false, true, false, false, true, false, false, true, false, true, false, false, false] rfl rfl (take_ofW HT_.out HW_.out (by kernel_rfl)) (fun _ _ _ h => h) (Or.inl ⟨by rfl, ?_⟩) hHeld ?_ ?_
 rotate_left
 ·rintro w' ⟨s0, s1, s2, s3, s4, s5, s6, s7, s8⟩
  go_simp
  with_reducible rfl
 rotate_left
 ·simp only [Act.put, List.setIfInBounds_toArray, List.set_cons_zero, List.set_cons_succ, i64_w, i32_w]
  rfl
 refine take_ (i := 3) (N := some 6) (v := ?_) (a' := ?_) #[true, true, true, true, true, false, true, false, true, false, true, false, false, true, false, false, true, false, true, false, false, false] rfl rfl (take_ofW HT_.out HW_.out (by kernel_rfl)) (fun _ _ _ h => h) (Or.inl ⟨by rfl, ?_⟩) hHeld ?_ ?_
 rotate_left
 ·rintro w' ⟨s0, s1, s2, s3, s4, s5, s6, s7, s8⟩
  go_simp
  with_reducible rfl
 rotate_left
 ·simp only [Act.put, List.setIfInBounds_toArray, List.set_cons_zero, List.set_cons_succ, i64_w, i32_w]
  rfl
 refine take_ (i := 5) (N := some 8) (v := ?_) (a' := ?_) #[true, true, true, true, true, true, true, false, true, false, true, false, false, true, false, false, true, false, true, false, false, false] rfl rfl (take_ofW HT_.out HW_.out (by kernel_rfl)) (fun _ _ _ h => h) (Or.inl ⟨by rfl, ?_⟩) hHeld ?_ ?_
 rotate_left
 ·rintro w' ⟨s0, s1, s2, s3, s4, s5, s6, s7, s8⟩
  go_simp
  with_reducible rfl
 rotate_left
 ·simp only [Act.put, List.setIfInBounds_toArray, List.set_cons_zero, List.set_cons_succ, i64_w, i32_w]
  rfl
 refine take_ (i := 7) (N := some 10) (v := ?_) (a' := ?_) #[true, true, true, true, true, true, true, true, true, false, true, false, false, true, false, false, true, false, true, false, false, false] rfl rfl (take_ofW HT_.out HW_.out (by kernel_rfl)) (fun _ _ _ h => h) (Or.inl ⟨by rfl, ?_⟩) hHeld ?_ ?_
 rotate_left
 ·rintro w' ⟨s0, s1, s2, s3, s4, s5, s6, s7, s8⟩
  go_simp
  with_reducible rfl
 rotate_left
 ·simp only [Act.put, List.setIfInBounds_toArray, List.set_cons_zero, List.set_cons_succ, i64_w, i32_w]
  rfl
 refine take_ (i := 9) (N := some 12) (v := ?_) (a' := ?_) #[true, true, true, true, true, true, true, true, true, true, true, false, false, true, false, false, true, false, true, false, false, false] rfl rfl (take_ofW HT_.out HW_.out (by kernel_rfl)) (fun _ _ _ h => h) (Or.inl ⟨by rfl, ?_⟩) hHeld ?_ ?_
 rotate_left
 ·rintro w' ⟨s0, s1, s2, s3, s4, s5, s6, s7, s8⟩
  go_simp
  with_reducible rfl
 rotate_left
 ·simp only [Act.put, List.setIfInBounds_toArray, List.set_cons_zero, List.set_cons_succ, i64_w, i32_w]
  rfl
 refine take_ (i := 11) (N := some 14) (v := ?_) (a' := ?_) #[true, true, true, true, true, true, true, true, true, true, true, true, false, true, false, false, true, false, true, false, false, false] rfl rfl (take_ofW HT_.out HW_.out (by kernel_rfl)) (fun _ _ _ h => h) (Or.inl ⟨by rfl, ?_⟩) hHeld ?_ ?_
 rotate_left
 ·rintro w' ⟨s0, s1, s2, s3, s4, s5, s6, s7, s8⟩
  go_simp
  with_reducible rfl
 rotate_left
 ·simp only [Act.put, List.setIfInBounds_toArray, List.set_cons_zero, List.set_cons_succ, i64_w, i32_w]
  rfl
 refine take_ (i := 14) (N := some 17) (v := ?_) (a' := ?_) #[true, true, true, true, true, true, true, true, true, true, true, true, false, true, true, false, true, false, true, false, false, false] rfl rfl (take_ofW HT_.out HW_.out (by kernel_rfl)) (fun _ _ _ h => h) (Or.inl ⟨by rfl, ?_⟩) hHeld ?_ ?_
 rotate_left
 ·rintro w' ⟨s0, s1, s2, s3, s4, s5, s6, s7, s8⟩
  go_simp
  with_reducible rfl
 rotate_left
 ·simp only [Act.put, List.setIfInBounds_toArray, List.set_cons_zero, List.set_cons_succ, i64_w, i32_w]
  rfl
 refine take_ (i := 17) (N := some 20) (v := ?_) (a' := ?_) #[true, true, true, true, true, true, true, true, true, true, true, true, false, true, true, false, true, true, true, false, false, false] rfl rfl (take_ofW HT_.out HW_.out (by kernel_rfl)) (fun _ _ _ h => h) (Or.inl ⟨by rfl, ?_⟩) hHeld ?_ ?_
 rotate_left
 ·rintro w' ⟨s0, s1, s2, s3, s4, s5, s6, s7, s8⟩
  go_simp
  with_reducible rfl
 rotate_left
 ·simp only [Act.put, List.setIfInBounds_toArray, List.set_cons_zero, List.set_cons_succ, i64_w, i32_w]
  rfl
 refine take_ (i := 19) (N := some 22) (v := ?_) (a' := ?_) #[true, true, true, true, true, true, true, true, true, true, true, true, false, true, true, false, true, true, true, true, false, false] rfl rfl (take_ofW HT_.out HW_.out (by kernel_rfl)) (fun _ _ _ h => h) (Or.inl ⟨by rfl, ?_⟩) hHeld ?_ ?_
 rotate_left
 ·rintro w' ⟨s0, s1, s2, s3, s4, s5, s6, s7, s8⟩
  go_simp
  with_reducible rfl
 rotate_left
 ·simp only [Act.put, List.setIfInBounds_toArray, List.set_cons_zero, List.set_cons_succ, i64_w, i32_w]
  rfl
 refine one_ (i := 12) (N := some 15) #[true, true, true, true, true, true, true, true, true, true, true, true, true, true, true, false, true, true, true, true, false, false] rfl rfl (one_of HT_.out (by kernel_rfl)) (by decide) (fun K hK => ?_)
 refine goes_ Try.func139 (by kernel_rfl) rfl #[.slice A0_5 l0_5.length c0_5] (by rfl) rfl rfl (by (try simp only [List.map_toArray, List.map_cons, List.map_nil]); first | done | rfl | (simp only [List.length_drop, List.length_take]; rfl)) ?_
 with_reducible refine (tidepolelaw11_spans.calls k _ _ l0_5 t103 _ ?side1 ?side2 A2.out).mono ?_
 (case side1 => repeat (first | exact (Kd.C_below HR0_5.out HB.out) | (with_reducible refine Kd.C_alloc ?_ _) | (with_reducible refine Kd.C_drewN ?_ _) | (with_reducible refine Kd.C_drew ?_)))
 (case side2 => exact HC0_5.out)
 rintro e w7 ⟨v104, rfl, ho0, hb⟩
 refine ⟨_, rfl, ?_⟩
 have n0_ := Aside0.mk (Kd.V_elder' (by (with_reducible repeat (first | apply Kd.V_alloc | apply Kd.V_drewN | apply Kd.V_drew)); exact HO0_7.out) (Kd.R_base ho0) hb)
 have n1_ := Aside0.mk (Kd.V_elder' (by (with_reducible repeat (first | apply Kd.V_alloc | apply Kd.V_drewN | apply Kd.V_drew)); exact HO0_8.out) (Kd.R_base ho0) hb)
 have n2_ := Aside0.mk (Kd.R_lower (Kd.R_newM (M := fun k_ => (w.heap.size ≤ k_)) ho0 (below_size (by repeat (first | (with_reducible first | exact HB.out | apply below_alloc | apply pw_below_drewN | apply below_drew1 | refine below_set ?_ GE101.out | refine below_set ?_ GE102.out) | exact HB.out))) (fun k_ h_ => h_)) (below_size (by repeat (first | (with_reducible first | exact HB.out | apply below_alloc | apply pw_below_drewN | apply below_drew1 | refine below_set ?_ GE101.out | refine below_set ?_ GE102.out) | exact HB.out))))
 have n3_ := Aside0.mk (blk_below (g := gb101) (o := .cells #[.int .i64 a0_0, .int .u64 a0_1, .int .u64 a0_2, .int .u64 a0_3, .int .u64 a0_4, .slice A0_5 l0_5.length c0_5, .slice A0_6 l0_6.length c0_6, .slice A0_7 l0_7.length c0_7, .slice A0_8 l0_8.length c0_8] 79 (0, 0)) (by (with_reducible repeat (first | refine blk_drewN ?_ _ | refine blk_drew ?_ | refine blk_alloc ?_ _)); exact BK101.out) hb)
 have n4_ := Aside0.mk (blk_below (g := gb102) (o := .cells #[.int .i64 0, .int .u64 0, .int .u64 0, .int .u64 0, .int .u64 0, .slice none 0 0, .slice none 0 0, .slice none 0 0, .slice none 0 0] 84 (0, 0)) (by (with_reducible repeat (first | refine blk_drewN ?_ _ | refine blk_drew ?_ | refine blk_alloc ?_ _)); exact BK102.out) hb)
 have n5_ := Aside0.mk (below_step (by repeat (first | (with_reducible first | exact HB.out | apply below_alloc | apply pw_below_drewN | apply below_drew1 | refine below_set ?_ GE101.out | refine below_set ?_ GE102.out) | exact HB.out)) hb)
 clear HO0_7
 clear HO0_8
 clear BK101
 clear BK102
 clear HB
 have HO0_7 := n0_
 have HO0_8 := n1_
 have HO105 := n2_
 have BK101 := n3_
 have BK102 := n4_
 have HB := n5_
 clear n0_ n1_ n2_ n3_ n4_ n5_
 (try clear hb)
 (try clear hb2)
 (try clear hk)
 (try clear hi)
 (try clear ho0)
 refine hK.out _ _ ⟨(blk_cell BK101.out 0).trans rfl, (blk_cell BK101.out 1).trans rfl, (blk_cell BK101.out 2).trans rfl, (blk_cell BK101.out 3).trans rfl, (blk_cell BK101.out 4).trans rfl, (blk_cell BK101.out 5).trans rfl, (blk_cell BK101.out 6).trans rfl, (blk_cell BK101.out 7).trans rfl, (blk_cell BK101.out 8).trans rfl⟩ (fun hHeld => ?_)
 clear hK K
 refine norm_ (a' := ?_) ?_ ?_
 rotate_left
 ·show Act.put _ (some 15) _ = _
  simp only [Act.put, List.setIfInBounds_toArray, List.set_cons_zero, List.set_cons_succ, i64_w, i32_w]
  rfl
 refine one_ (i := 15) (N := some 18) #[true, true, true, true, true, true, true, true, true, true, true, true, true, true, true, true, true, true, true, true, false, false] rfl rfl (one_of HT_.out (by kernel_rfl)) (by decide) (fun K hK => ?_)
 refine goes_ Try.func139 (by kernel_rfl) rfl #[.slice A0_6 l0_6.length c0_6] (by rfl) rfl rfl (by (try simp only [List.map_toArray, List.map_cons, List.map_nil]); first | done | rfl | (simp only [List.length_drop, List.length_take]; rfl)) ?_
 with_reducible refine (tidepolelaw11_spans.calls k _ _ l0_6 t106 _ ?side1 ?side2 A3.out).mono ?_
 (case side1 => repeat (first | exact (Kd.C_below HR0_6.out HB.out) | (with_reducible refine Kd.C_alloc ?_ _) | (with_reducible refine Kd.C_drewN ?_ _) | (with_reducible refine Kd.C_drew ?_)))
 (case side2 => exact HC0_6.out)
 rintro e w8 ⟨v107, rfl, ho0, hb⟩
 refine ⟨_, rfl, ?_⟩
 have n0_ := Aside0.mk (Kd.V_elder' (by (with_reducible repeat (first | apply Kd.V_alloc | apply Kd.V_drewN | apply Kd.V_drew)); exact HO0_7.out) (Kd.R_base ho0) hb)
 have n1_ := Aside0.mk (Kd.V_elder' (by (with_reducible repeat (first | apply Kd.V_alloc | apply Kd.V_drewN | apply Kd.V_drew)); exact HO0_8.out) (Kd.R_base ho0) hb)
 have n2_ := Aside0.mk (Kd.R_elder' (by (with_reducible repeat (first | apply Kd.R_alloc | apply Kd.R_drewN | apply Kd.R_drew)); exact HO105.out) (Kd.R_base ho0) hb)
 have n3_ := Aside0.mk (Kd.R_lower (Kd.R_new' (Kd.R_newM (M := fun k_ => (w.heap.size ≤ k_)) ho0 (below_size (by repeat (first | (with_reducible first | exact HB.out | apply below_alloc | apply pw_below_drewN | apply below_drew1 | refine below_set ?_ GE101.out | refine below_set ?_ GE102.out) | exact HB.out))) (fun k_ h_ => h_)) (Kd.R_lt (by (with_reducible repeat (first | apply Kd.R_alloc | apply Kd.R_drewN | apply Kd.R_drew)); exact HO105.out))) (below_size (by repeat (first | (with_reducible first | exact HB.out | apply below_alloc | apply pw_below_drewN | apply below_drew1 | refine below_set ?_ GE101.out | refine below_set ?_ GE102.out) | exact HB.out))))
 have n4_ := Aside0.mk (blk_below (g := gb101) (o := .cells #[.int .i64 a0_0, .int .u64 a0_1, .int .u64 a0_2, .int .u64 a0_3, .int .u64 a0_4, .slice A0_5 l0_5.length c0_5, .slice A0_6 l0_6.length c0_6, .slice A0_7 l0_7.length c0_7, .slice A0_8 l0_8.length c0_8] 79 (0, 0)) (by (with_reducible repeat (first | refine blk_drewN ?_ _ | refine blk_drew ?_ | refine blk_alloc ?_ _)); exact BK101.out) hb)
 have n5_ := Aside0.mk (blk_below (g := gb102) (o := .cells #[.int .i64 0, .int .u64 0, .int .u64 0, .int .u64 0, .int .u64 0, .slice none 0 0, .slice none 0 0, .slice none 0 0, .slice none 0 0] 84 (0, 0)) (by (with_reducible repeat (first | refine blk_drewN ?_ _ | refine blk_drew ?_ | refine blk_alloc ?_ _)); exact BK102.out) hb)
 have n6_ := Aside0.mk (below_step (by repeat (first | (with_reducible first | exact HB.out | apply below_alloc | apply pw_below_drewN | apply below_drew1 | refine below_set ?_ GE101.out | refine below_set ?_ GE102.out) | exact HB.out)) hb)
 clear HO0_7
 clear HO0_8
 clear HO105
 clear BK101
 clear BK102
 clear HB
 have HO0_7 := n0_
 have HO0_8 := n1_
 have HO105 := n2_
 have HO108 := n3_
 have BK101 := n4_
 have BK102 := n5_
 have HB := n6_
 clear n0_ n1_ n2_ n3_ n4_ n5_ n6_
 (try clear hb)
 (try clear hb2)
 (try clear hk)
 (try clear hi)
 (try clear ho0)
 obtain ⟨Ao9, co9, eo9⟩ := Kd.R_slice HO108.out
 (first | subst eo9 | (injection eo9 with f1_ f2_ f3_; have f4_ := f1_.symm; have f5_ := f3_.symm; clear f1_ f2_ f3_; subst f4_; subst f5_))
 obtain ⟨Ao10, co10, eo10⟩ := Kd.R_slice HO105.out
 (first | subst eo10 | (injection eo10 with f1_ f2_ f3_; have f4_ := f1_.symm; have f5_ := f3_.symm; clear f1_ f2_ f3_; subst f4_; subst f5_))
 refine hK.out _ _ ⟨(blk_cell BK101.out 0).trans rfl, (blk_cell BK101.out 1).trans rfl, (blk_cell BK101.out 2).trans rfl, (blk_cell BK101.out 3).trans rfl, (blk_cell BK101.out 4).trans rfl, (blk_cell BK101.out 5).trans rfl, (blk_cell BK101.out 6).trans rfl, (blk_cell BK101.out 7).trans rfl, (blk_cell BK101.out 8).trans rfl⟩ (fun hHeld => ?_)
 clear hK K
 refine norm_ (a' := ?_) ?_ ?_
 rotate_left
 ·show Act.put _ (some 18) _ = _
  simp only [Act.put, List.setIfInBounds_toArray, List.set_cons_zero, List.set_cons_succ, i64_w, i32_w]
  rfl
 refine pure_ (i := 20) (N := some 23) (v := ?_) (a' := ?_) #[true, true, true, true, true, true, true, true, true, true, true, true, true, true, true, true, true, true, true, true, true, false] rfl rfl (any_of HT_.out (by kernel_rfl)) (fun _ _ _ h => h) (Or.inl ⟨by rfl, ?_⟩) ?_ ?_
 rotate_left
 ·intro w'
  go_simp
  with_reducible rfl
 rotate_left
 ·simp only [Act.put, List.setIfInBounds_toArray, List.set_cons_zero, List.set_cons_succ, i64_w, i32_w]
  rfl
 refine one_ (i := 21) (N := none) #[true, true, true, true, true, true, true, true, true, true, true, true, true, true, true, true, true, true, true, true, true, true] rfl rfl (one_of HT_.out (by kernel_rfl)) (by decide) (fun K hK => ?_)
 have hs11 : w8.cell? ⟨gb102, 0, none⟩ = some (.int .i64 0) := (blk_cell BK102.out 0).trans rfl
 have hfs11 := blk_frozen BK102.out 0
 have hns11_0 := NB101_102.out
 have hms11_0 := NB102_101.out
 have hs12 : w8.cell? ⟨gb102, 1, none⟩ = some (.int .u64 0) := (blk_cell BK102.out 1).trans rfl
 have hfs12 := blk_frozen BK102.out 1
 have hns12_0 := NB101_102.out
 have hms12_0 := NB102_101.out
 have hs13 : w8.cell? ⟨gb102, 2, none⟩ = some (.int .u64 0) := (blk_cell BK102.out 2).trans rfl
 have hfs13 := blk_frozen BK102.out 2
 have hns13_0 := NB101_102.out
 have hms13_0 := NB102_101.out
 have hs14 : w8.cell? ⟨gb102, 3, none⟩ = some (.int .u64 0) := (blk_cell BK102.out 3).trans rfl
 have hfs14 := blk_frozen BK102.out 3
 have hns14_0 := NB101_102.out
 have hms14_0 := NB102_101.out
 have hs15 : w8.cell? ⟨gb102, 4, none⟩ = some (.int .u64 0) := (blk_cell BK102.out 4).trans rfl
 have hfs15 := blk_frozen BK102.out 4
 have hns15_0 := NB101_102.out
 have hms15_0 := NB102_101.out
 have hs16 : w8.cell? ⟨gb102, 5, none⟩ = some (.slice none 0 0) := (blk_cell BK102.out 5).trans rfl
 have hfs16 := blk_frozen BK102.out 5
 have hns16_0 := NB101_102.out
 have hms16_0 := NB102_101.out
 have hs17 : w8.cell? ⟨gb102, 6, none⟩ = some (.slice none 0 0) := (blk_cell BK102.out 6).trans rfl
 have hfs17 := blk_frozen BK102.out 6
 have hns17_0 := NB101_102.out
 have hms17_0 := NB102_101.out
 have hs18 : w8.cell? ⟨gb102, 7, none⟩ = some (.slice none 0 0) := (blk_cell BK102.out 7).trans rfl
 have hfs18 := blk_frozen BK102.out 7
 have hns18_0 := NB101_102.out
 have hms18_0 := NB102_101.out
 have hs19 : w8.cell? ⟨gb102, 8, none⟩ = some (.slice none 0 0) := (blk_cell BK102.out 8).trans rfl
 have hfs19 := blk_frozen BK102.out 8
 have hns19_0 := NB101_102.out
 have hms19_0 := NB102_101.out
 refine skip_ (w1 := ?_) (by rfl) rfl ?_ ?_
 rotate_left
 ·go_simp
  rfl
 refine hK.out _ _ ⟨((cell_far (p := ⟨gb102, _, none⟩) NB101_102.out _).trans (((cell_far (p := ⟨gb102, _, none⟩) NB101_102.out _).trans (((cell_far (p := ⟨gb102, _, none⟩) NB101_102.out _).trans (((cell_far (p := ⟨gb102, _, none⟩) NB101_102.out _).trans (((cell_far (p := ⟨gb102, _, none⟩) NB101_102.out _).trans (((cell_far (p := ⟨gb102, _, none⟩) NB101_102.out _).trans (((cell_far (p := ⟨gb102, _, none⟩) NB101_102.out _).trans (((cell_far (p := ⟨gb102, _, none⟩) NB101_102.out _).trans (((cell_far (p := ⟨gb102, _, none⟩) NB101_102.out _).trans (hHeld.1)))))))))))))))))), ((cell_far (p := ⟨gb102, _, none⟩) NB101_102.out _).trans (((cell_far (p := ⟨gb102, _, none⟩) NB101_102.out _).trans (((cell_far (p := ⟨gb102, _, none⟩) NB101_102.out _).trans (((cell_far (p := ⟨gb102, _, none⟩) NB101_102.out _).trans (((cell_far (p := ⟨gb102, _, none⟩) NB101_102.out _).trans (((cell_far (p := ⟨gb102, _, none⟩) NB101_102.out _).trans (((cell_far (p := ⟨gb102, _, none⟩) NB101_102.out _).trans (((cell_far (p := ⟨gb102, _, none⟩) NB101_102.out _).trans (((cell_far (p := ⟨gb102, _, none⟩) NB101_102.out _).trans (hHeld.2.1)))))))))))))))))), ((cell_far (p := ⟨gb102, _, none⟩) NB101_102.out _).trans (((cell_far (p := ⟨gb102, _, none⟩) NB101_102.out _).trans (((cell_far (p := ⟨gb102, _, none⟩) NB101_102.out _).trans (((cell_far (p := ⟨gb102, _, none⟩) NB101_102.out _).trans (((cell_far (p := ⟨gb102, _, none⟩) NB101_102.out _).trans (((cell_far (p := ⟨gb102, _, none⟩) NB101_102.out _).trans (((cell_far (p := ⟨gb102, _, none⟩) NB101_102.out _).trans (((cell_far (p := ⟨gb102, _, none⟩) NB101_102.out _).trans (((cell_far (p := ⟨gb102, _, none⟩) NB101_102.out _).trans (hHeld.2.2.1)))))))))))))))))), ((cell_far (p := ⟨gb102, _, none⟩) NB101_102.out _).trans (((cell_far (p := ⟨gb102, _, none⟩) NB101_102.out _).trans (((cell_far (p := ⟨gb102, _, none⟩) NB101_102.out _).trans (((cell_far (p := ⟨gb102, _, none⟩) NB101_102.out _).trans (((cell_far (p := ⟨gb102, _, none⟩) NB101_102.out _).trans (((cell_far (p := ⟨gb102, _, none⟩) NB101_102.out _).trans (((cell_far (p := ⟨gb102, _, none⟩) NB101_102.out _).trans (((cell_far (p := ⟨gb102, _, none⟩) NB101_102.out _).trans (((cell_far (p := ⟨gb102, _, none⟩) NB101_102.out _).trans (hHeld.2.2.2.1)))))))))))))))))), ((cell_far (p := ⟨gb102, _, none⟩) NB101_102.out _).trans (((cell_far (p := ⟨gb102, _, none⟩) NB101_102.out _).trans (((cell_far (p := ⟨gb102, _, none⟩) NB101_102.out _).trans (((cell_far (p := ⟨gb102, _, none⟩) NB101_102.out _).trans (((cell_far (p := ⟨gb102, _, none⟩) NB101_102.out _).trans (((cell_far (p := ⟨gb102, _, none⟩) NB101_102.out _).trans (((cell_far (p := ⟨gb102, _, none⟩) NB101_102.out _).trans (((cell_far (p := ⟨gb102, _, none⟩) NB101_102.out _).trans (((cell_far (p := ⟨gb102, _, none⟩) NB101_102.out _).trans (hHeld.2.2.2.2.1)))))))))))))))))), ((cell_far (p := ⟨gb102, _, none⟩) NB101_102.out _).trans (((cell_far (p := ⟨gb102, _, none⟩) NB101_102.out _).trans (((cell_far (p := ⟨gb102, _, none⟩) NB101_102.out _).trans (((cell_far (p := ⟨gb102, _, none⟩) NB101_102.out _).trans (((cell_far (p := ⟨gb102, _, none⟩) NB101_102.out _).trans (((cell_far (p := ⟨gb102, _, none⟩) NB101_102.out _).trans (((cell_far (p := ⟨gb102, _, none⟩) NB101_102.out _).trans (((cell_far (p := ⟨gb102, _, none⟩) NB101_102.out _).trans (((cell_far (p := ⟨gb102, _, none⟩) NB101_102.out _).trans (hHeld.2.2.2.2.2.1)))))))))))))))))), ((cell_far (p := ⟨gb102, _, none⟩) NB101_102.out _).trans (((cell_far (p := ⟨gb102, _, none⟩) NB101_102.out _).trans (((cell_far (p := ⟨gb102, _, none⟩) NB101_102.out _).trans (((cell_far (p := ⟨gb102, _, none⟩) NB101_102.out _).trans (((cell_far (p := ⟨gb102, _, none⟩) NB101_102.out _).trans (((cell_far (p := ⟨gb102, _, none⟩) NB101_102.out _).trans (((cell_far (p := ⟨gb102, _, none⟩) NB101_102.out _).trans (((cell_far (p := ⟨gb102, _, none⟩) NB101_102.out _).trans (((cell_far (p := ⟨gb102, _, none⟩) NB101_102.out _).trans (hHeld.2.2.2.2.2.2.1)))))))))))))))))), ((cell_far (p := ⟨gb102, _, none⟩) NB101_102.out _).trans (((cell_far (p := ⟨gb102, _, none⟩) NB101_102.out _).trans (((cell_far (p := ⟨gb102, _, none⟩) NB101_102.out _).trans (((cell_far (p := ⟨gb102, _, none⟩) NB101_102.out _).trans (((cell_far (p := ⟨gb102, _, none⟩) NB101_102.out _).trans (((cell_far (p := ⟨gb102, _, none⟩) NB101_102.out _).trans (((cell_far (p := ⟨gb102, _, none⟩) NB101_102.out _).trans (((cell_far (p := ⟨gb102, _, none⟩) NB101_102.out _).trans (((cell_far (p := ⟨gb102, _, none⟩) NB101_102.out _).trans (hHeld.2.2.2.2.2.2.2.1)))))))))))))))))), ((cell_far (p := ⟨gb102, _, none⟩) NB101_102.out _).trans (((cell_far (p := ⟨gb102, _, none⟩) NB101_102.out _).trans (((cell_far (p := ⟨gb102, _, none⟩) NB101_102.out _).trans (((cell_far (p := ⟨gb102, _, none⟩) NB101_102.out _).trans (((cell_far (p := ⟨gb102, _, none⟩) NB101_102.out _).trans (((cell_far (p := ⟨gb102, _, none⟩) NB101_102.out _).trans (((cell_far (p := ⟨gb102, _, none⟩) NB101_102.out _).trans (((cell_far (p := ⟨gb102, _, none⟩) NB101_102.out _).trans (((cell_far (p := ⟨gb102, _, none⟩) NB101_102.out _).trans (hHeld.2.2.2.2.2.2.2.2))))))))))))))))))⟩ (fun hHeld => ?_)
 clear hK K
 refine done_ (done_of HT_.out (by kernel_rfl)) ?_
 try go_wp2
 refine bodyPost_ret (results_cell_row rfl _ _ gb102 84 #[.int .i64 a0_0, .int .u64 a0_1, .int .u64 a0_2, .int .u64 a0_3, .int .u64 a0_4, .slice Ao10 t103.length co10, .slice Ao9 t106.length co9, .slice A0_7 l0_7.length c0_7, .slice A0_8 l0_8.length c0_8] (0, 0) _ rfl (by (with_reducible repeat (first | refine blk_drewN ?_ _ | refine blk_drew ?_ | refine blk_alloc ?_ _)); refine blk_put (cs := #[.int .i64 a0_0, .int .u64 a0_1, .int .u64 a0_2, .int .u64 a0_3, .int .u64 a0_4, .slice Ao10 t103.length co10, .slice Ao9 t106.length co9, .slice A0_7 l0_7.length c0_7, .slice none 0 0]) ?_ 8 _ rfl; (with_reducible repeat (first | refine blk_drewN ?_ _ | refine blk_drew ?_ | refine blk_alloc ?_ _)); refine blk_put (cs := #[.int .i64 a0_0, .int .u64 a0_1, .int .u64 a0_2, .int .u64 a0_3, .int .u64 a0_4, .slice Ao10 t103.length co10, .slice Ao9 t106.length co9, .slice none 0 0, .slice none 0 0]) ?_ 7 _ rfl; (with_reducible repeat (first | refine blk_drewN ?_ _ | refine blk_drew ?_ | refine blk_alloc ?_ _)); refine blk_put (cs := #[.int .i64 a0_0, .int .u64 a0_1, .int .u64 a0_2, .int .u64 a0_3, .int .u64 a0_4, .slice Ao10 t103.length co10, .slice none 0 0, .slice none 0 0, .slice none 0 0]) ?_ 6 _ rfl; (with_reducible repeat (first | refine blk_drewN ?_ _ | refine blk_drew ?_ | refine blk_alloc ?_ _)); refine blk_put (cs := #[.int .i64 a0_0, .int .u64 a0_1, .int .u64 a0_2, .int .u64 a0_3, .int .u64 a0_4, .slice none 0 0, .slice none 0 0, .slice none 0 0, .slice none 0 0]) ?_ 5 _ rfl; (with_reducible repeat (first | refine blk_drewN ?_ _ | refine blk_drew ?_ | refine blk_alloc ?_ _)); refine blk_put (cs := #[.int .i64 a0_0, .int .u64 a0_1, .int .u64 a0_2, .int .u64 a0_3, .int .u64 0, .slice none 0 0, .slice none 0 0, .slice none 0 0, .slice none 0 0]) ?_ 4 _ rfl; (with_reducible repeat (first | refine blk_drewN ?_ _ | refine blk_drew ?_ | refine blk_alloc ?_ _)); refine blk_put (cs := #[.int .i64 a0_0, .int .u64 a0_1, .int .u64 a0_2, .int .u64 0, .int .u64 0, .slice none 0 0, .slice none 0 0, .slice none 0 0, .slice none 0 0]) ?_ 3 _ rfl; (with_reducible repeat (first | refine blk_drewN ?_ _ | refine blk_drew ?_ | refine blk_alloc ?_ _)); refine blk_put (cs := #[.int .i64 a0_0, .int .u64 a0_1, .int .u64 0, .int .u64 0, .int .u64 0, .slice none 0 0, .slice none 0 0, .slice none 0 0, .slice none 0 0]) ?_ 2 _ rfl; (with_reducible repeat (first | refine blk_drewN ?_ _ | refine blk_drew ?_ | refine blk_alloc ?_ _)); refine blk_put (cs := #[.int .i64 a0_0, .int .u64 0, .int .u64 0, .int .u64 0, .int .u64 0, .slice none 0 0, .slice none 0 0, .slice none 0 0, .slice none 0 0]) ?_ 1 _ rfl; (with_reducible repeat (first | refine blk_drewN ?_ _ | refine blk_drew ?_ | refine blk_alloc ?_ _)); refine blk_put (cs := #[.int .i64 0, .int .u64 0, .int .u64 0, .int .u64 0, .int .u64 0, .slice none 0 0, .slice none 0 0, .slice none 0 0, .slice none 0 0]) ?_ 0 _ rfl; (with_reducible repeat (first | refine blk_drewN ?_ _ | refine blk_drew ?_ | refine blk_alloc ?_ _)); exact BK102.out) Try.underlying84 rfl (by kernel_rfl)) rfl ?_
 exact ⟨_, _, _, _, by first | rfl | (simp [errW_none, errW_some] <;> rfl) | (simp [*, errW_none, errW_some] <;> rfl), by (with_reducible repeat (first | apply Kd.R_alloc | apply Kd.R_drewN | apply Kd.R_drew)); exact Kd.R_mono (Kd.R_far (p := ⟨gb102, 8, none⟩) (Kd.R_far (p := ⟨gb102, 7, none⟩) (Kd.R_far (p := ⟨gb102, 6, none⟩) (Kd.R_far (p := ⟨gb102, 5, none⟩) (Kd.R_far (p := ⟨gb102, 4, none⟩) (Kd.R_far (p := ⟨gb102, 3, none⟩) (Kd.R_far (p := ⟨gb102, 2, none⟩) (Kd.R_far (p := ⟨gb102, 1, none⟩) (Kd.R_far (p := ⟨gb102, 0, none⟩) (Kd.R_types HO105.out BK102.out (by decide)) (fun _ hk => hk.2) (.int .i64 a0_0)) (fun _ hk => hk.2) (.int .u64 a0_1)) (fun _ hk => hk.2) (.int .u64 a0_2)) (fun _ hk => hk.2) (.int .u64 a0_3)) (fun _ hk => hk.2) (.int .u64 a0_4)) (fun _ hk => hk.2) (.slice Ao10 t103.length co10)) (fun _ hk => hk.2) (.slice Ao9 t106.length co9)) (fun _ hk => hk.2) (.slice A0_7 l0_7.length c0_7)) (fun _ hk => hk.2) (.slice A0_8 l0_8.length c0_8)) (fun _ hk => ⟨hk.1.1.1, hk.1.2⟩), by (with_reducible repeat (first | apply Kd.R_alloc | apply Kd.R_drewN | apply Kd.R_drew)); exact Kd.R_mono (Kd.R_far (p := ⟨gb102, 8, none⟩) (Kd.R_far (p := ⟨gb102, 7, none⟩) (Kd.R_far (p := ⟨gb102, 6, none⟩) (Kd.R_far (p := ⟨gb102, 5, none⟩) (Kd.R_far (p := ⟨gb102, 4, none⟩) (Kd.R_far (p := ⟨gb102, 3, none⟩) (Kd.R_far (p := ⟨gb102, 2, none⟩) (Kd.R_far (p := ⟨gb102, 1, none⟩) (Kd.R_far (p := ⟨gb102, 0, none⟩) (Kd.R_types HO108.out BK102.out (by decide)) (fun _ hk => hk.2) (.int .i64 a0_0)) (fun _ hk => hk.2) (.int .u64 a0_1)) (fun _ hk => hk.2) (.int .u64 a0_2)) (fun _ hk => hk.2) (.int .u64 a0_3)) (fun _ hk => hk.2) (.int .u64 a0_4)) (fun _ hk => hk.2) (.slice Ao10 t103.length co10)) (fun _ hk => hk.2) (.slice Ao9 t106.length co9)) (fun _ hk => hk.2) (.slice A0_7 l0_7.length c0_7)) (fun _ hk => hk.2) (.slice A0_8 l0_8.length c0_8)) (fun _ hk => ⟨hk.1.1.1, hk.1.2⟩), by (with_reducible repeat (first | apply Kd.V_alloc | apply Kd.V_drewN | apply Kd.V_drew)); exact Kd.V_mono (Kd.V_far (p := ⟨gb102, 8, none⟩) (Kd.V_far (p := ⟨gb102, 7, none⟩) (Kd.V_far (p := ⟨gb102, 6, none⟩) (Kd.V_far (p := ⟨gb102, 5, none⟩) (Kd.V_far (p := ⟨gb102, 4, none⟩) (Kd.V_far (p := ⟨gb102, 3, none⟩) (Kd.V_far (p := ⟨gb102, 2, none⟩) (Kd.V_far (p := ⟨gb102, 1, none⟩) (Kd.V_far (p := ⟨gb102, 0, none⟩) (Kd.V_mono HO0_7.out (fun k_ hk => (⟨hk, hk.1.1.2⟩ : _ ∧ k_ ≠ gb102))) (fun _ hk => hk.2) (.int .i64 a0_0)) (fun _ hk => hk.2) (.int .u64 a0_1)) (fun _ hk => hk.2) (.int .u64 a0_2)) (fun _ hk => hk.2) (.int .u64 a0_3)) (fun _ hk => hk.2) (.int .u64 a0_4)) (fun _ hk => hk.2) (.slice Ao10 t103.length co10)) (fun _ hk => hk.2) (.slice Ao9 t106.length co9)) (fun _ hk => hk.2) (.slice A0_7 l0_7.length c0_7)) (fun _ hk => hk.2) (.slice A0_8 l0_8.length c0_8)) (fun _ hk => ⟨hk.1.1.1.1.1, ⟨hk.1.1.2, hk.1.2⟩⟩), by (with_reducible repeat (first | apply Kd.V_alloc | apply Kd.V_drewN | apply Kd.V_drew)); exact Kd.V_mono (Kd.V_far (p := ⟨gb102, 8, none⟩) (Kd.V_far (p := ⟨gb102, 7, none⟩) (Kd.V_far (p := ⟨gb102, 6, none⟩) (Kd.V_far (p := ⟨gb102, 5, none⟩) (Kd.V_far (p := ⟨gb102, 4, none⟩) (Kd.V_far (p := ⟨gb102, 3, none⟩) (Kd.V_far (p := ⟨gb102, 2, none⟩) (Kd.V_far (p := ⟨gb102, 1, none⟩) (Kd.V_far (p := ⟨gb102, 0, none⟩) (Kd.V_mono HO0_8.out (fun k_ hk => (⟨hk, hk.1.1.2⟩ : _ ∧ k_ ≠ gb102))) (fun _ hk => hk.2) (.int .i64 a0_0)) (fun _ hk => hk.2) (.int .u64 a0_1)) (fun _ hk => hk.2) (.int .u64 a0_2)) (fun _ hk => hk.2) (.int .u64 a0_3)) (fun _ hk => hk.2) (.int .u64 a0_4)) (fun _ hk => hk.2) (.slice Ao10 t103.length co10)) (fun _ hk => hk.2) (.slice Ao9 t106.length co9)) (fun _ hk => hk.2) (.slice A0_7 l0_7.length c0_7)) (fun _ hk => hk.2) (.slice A0_8 l0_8.length c0_8)) (fun _ hk => ⟨hk.1.1.1.1.1, ⟨hk.1.1.2, hk.1.2⟩⟩), by repeat (first | (with_reducible first | exact HB.out | apply below_alloc | apply pw_below_drewN | apply below_drew1 | refine below_set ?_ GE101.out | refine below_set ?_ GE102.out) | exact HB.out)⟩
end Go.Proofs.Ytacgeafjilipdaa.P
namespace Go.Proofs.Ytacgeafjilipdaa.P
open Go.RowKit Go.Shelf Go.Proofs.YtacgeafjilipdaaW.PrintWords Go.Proofs.YtacgeafjilipdaaW.PrintLast Go.Proofs.YtacgeafjilipdaaW.PrintMore
set_option linter.unusedVariables false
set_option linter.unusedSimpArgs false
def GR (w : World) (v : Value) (h : Fh) : Prop :=
  ∃ v5 v6 v7 v8, v = .agg #[.int .i64 h.f0, .int .u64 h.f1, .int .u64 h.f2, .int .u64 h.f3, .int .u64 h.f4, v5, v6, v7, v8] ∧ SI kRsp w v5 (h.f5.map toR) ∧ SI kRsp w v6 (h.f6.map toR) ∧ SI (Kd.int .u64) w v7 h.f7 ∧ SI (Kd.int .u64) w v8 h.f8
theorem GR.below {w w' : World} {v : Value} {h : Fh} (x : GR w v h) (hb : Below w.heap.size w w') : GR w' v h := by
  obtain ⟨v5, v6, v7, v8, e, h5, h6, h7, h8⟩ := x
  exact ⟨v5, v6, v7, v8, e, h5.below hb, h6.below hb, h7.below hb, h8.below hb⟩
theorem GR.open_ {w : World} {v : Value} {h : Fh} (x : GR w v h) : ∃ A5 c5 A6 c6 A7 c7 A8 c8, v = .agg #[.int .i64 h.f0, .int .u64 h.f1, .int .u64 h.f2, .int .u64 h.f3, .int .u64 h.f4, .slice A5 h.f5.length c5, .slice A6 h.f6.length c6, .slice A7 h.f7.length c7, .slice A8 h.f8.length c8] ∧
    SI kRsp w (.slice A5 h.f5.length c5) (h.f5.map toR) ∧ SI kRsp w (.slice A6 h.f6.length c6) (h.f6.map toR) ∧ SI (Kd.int .u64) w (.slice A7 h.f7.length c7) h.f7 ∧ SI (Kd.int .u64) w (.slice A8 h.f8.length c8) h.f8 := by
  obtain ⟨v5, v6, v7, v8, rfl, h5, h6, h7, h8⟩ := x
  obtain ⟨A5, c5, rfl, h51, h52⟩ := h5
  obtain ⟨A6, c6, rfl, h61, h62⟩ := h6
  obtain ⟨A7, c7, rfl, h71, h72⟩ := h7
  obtain ⟨A8, c8, rfl, h81, h82⟩ := h8
  rw [List.length_map]
  rw [List.length_map]
  refine ⟨A5, c5, A6, c6, A7, c7, A8, c8, rfl, ⟨A5, c5, by rw [List.length_map], h51, h52⟩, ⟨A6, c6, by rw [List.length_map], h61, h62⟩, .of h72 h71, .of h82 h81⟩
theorem SI.Vu {w : World} {e : Nat} {A : Option Addr} {c : Nat} {l : List Int} (hc : l.length ≤ c) (hr : (Kd.int .u64).C w A l.length l) : Kd.V (Kd.int .u64) e w w.heap.size (fun k_ => (fun k => k < w.heap.size) k_) (.slice A l.length c) l := ⟨_, _, rfl, hc, Kd.C_F (Kd.heap_int .u64) hr⟩
theorem SI.of_Vu {e : Nat} {w : World} {base : Nat} {ok : Nat → Prop} {v : Value} {l : List Int} (h : Kd.V (Kd.int .u64) e w base ok v l) : SI (Kd.int .u64) w v l := by
  obtain ⟨A, c, rfl, hc, hf⟩ := h
  exact .of (hf w (fun _ _ _ => rfl)) hc
theorem spans11_eq (l : List Sp) (hm : l.length < 8796093022208) (k : Nat) (hk : l.length < k) : tidepolelaw11_spans.f k l = some (l.map toR) := by
  unfold tidepolelaw11_spans.f
  have : ∀ (d k i : Nat), l.length - i = d → d < k → i ≤ l.length → tidepolelaw11_spans.l0 k ((l.take i).map toR) l (l.length : Int) (i : Int) = some (l.map toR) := by
    intro d
    induction d with
    | zero =>
      intro k i hd hk hi
      obtain ⟨k, rfl⟩ : ∃ m, k = m + 1 := ⟨k - 1, by omega⟩
      rw [tidepolelaw11_spans.l0, if_neg (by omega), List.take_of_length_le (by omega)]
    | succ d ih =>
      intro k i hd hk hi
      obtain ⟨k, rfl⟩ : ∃ m, k = m + 1 := ⟨k - 1, by omega⟩
      have hlt : i < l.length := by omega
      have hl1 : ((l.take i).map toR).length = i := by simp; omega
      rw [tidepolelaw11_spans.l0, if_pos (by omega), if_pos (by omega), if_pos (by omega), hl1, rdSp_at hlt, if_pos (by omega), wrap_succ (by omega), ← ih k (i + 1) (by omega) (by omega) (by omega), take_at hlt]
      simp only [List.map_append, List.map_cons, List.map_nil]
      rfl
  exact this l.length k 0 (by omega) hk (by omega)
theorem few11_c (l : List Sp) (hw : wfSps l) : ∃ b : Bool, (b = true → l.length ≤ 400) ∧ ∀ (w : World) (v : Value), SI kSp w v l → Calls Try.prog 134 #[v] w fun e w' => e = .returned (.bool b) ∧ Below w.heap.size w w' := by
  have hl : ∀ (d k i : Nat) (n : Int), 401 - i = d → d < k → i ≤ l.length → (i : Int) ≤ n → n ≤ 400 → ∃ b, tidepolelaw11_few.l0 k n l (l.length : Int) (i : Int) = some b ∧ (b = true → l.length ≤ 400) := by
    intro d
    induction d with
    | zero => intro k i n hd hk hi h0 h1; omega
    | succ d ih =>
      intro k i n hd hk hi h0 h1
      obtain ⟨k, rfl⟩ : ∃ m, k = m + 1 := ⟨k - 1, by omega⟩
      simp only [tidepolelaw11_few.l0]
      by_cases hlt : i < l.length
      · rw [if_pos (by omega), if_pos (by omega), if_pos (by omega), rdSp_at hlt, wrap_succ (by omega)]
        generalize l[i] = s
        have hrec : ∀ m : Int, n + 1 ≤ m → ∃ b, (if m > 400 then some false else tidepolelaw11_few.l0 k m l (l.length : Int) ((i + 1 : Nat) : Int)) = some b ∧ (b = true → l.length ≤ 400) := by
          intro m hm
          by_cases c : m > 400
          · rw [if_pos c]; exact ⟨false, rfl, fun h => by cases h⟩
          · rw [if_neg c]; exact ih k (i + 1) m (by omega) (by omega) (by omega) (by omega) (by omega)
        by_cases c : s.f1 > 0
        · rw [if_pos c]
          have hmn : 0 ≤ mn s.f1 5000 ∧ mn s.f1 5000 ≤ 5000 := by unfold mn; omega
          have ht := Int.tdiv_eq_ediv_of_nonneg (b := 10) hmn.1
          rw [ht]
          refine hrec _ ?_
          rw [wrap_id (x := mn s.f1 5000 / 10) (by omega) (by omega), wrap_id (x := 1 + mn s.f1 5000 / 10) (by omega) (by omega), wrap_id (x := n + (1 + mn s.f1 5000 / 10)) (by omega) (by omega), wrap_id (by omega) (by omega)]
          omega
        · rw [if_neg c]
          refine hrec _ ?_
          rw [wrap_id (by omega) (by omega)]; omega
      · rw [if_neg (by omega)]; exact ⟨true, rfl, fun _ => by omega⟩
  obtain ⟨b, h1, h2⟩ := hl 401 402 0 0 (by omega) (by omega) (by omega) (by omega) (by omega)
  refine ⟨b, h2, fun w v hv => ?_⟩
  obtain ⟨A, c, rfl, hc, hr⟩ := hv
  exact (tidepolelaw11_few.calls 402 A c l b w hr hc h1).mono fun e w1 h => ⟨h.1, h.2⟩
set_option maxHeartbeats 8000000 in
set_option maxRecDepth 100000 in
theorem little11_c (h : Fh) (hw5 : wfSps h.f5) (hw6 : wfSps h.f6) : ∃ b : Bool, (b = true → h.f5.length ≤ 400 ∧ h.f6.length ≤ 400 ∧ h.f7.length ≤ 300 ∧ h.f8.length ≤ 300) ∧ ∀ (w : World) (v : Value), GI w v h → Calls Try.prog 61 #[v] w fun e w' => e = .returned (.bool b) ∧ Below w.heap.size w w' := by
  obtain ⟨b1, hb1, c1⟩ := few11_c h.f5 hw5
  obtain ⟨b2, hb2, c2⟩ := few11_c h.f6 hw6
  have C1 := Aside0.mk c1
  have C2 := Aside0.mk c2
  have hu := Try.underlying79
  clear c1 c2
  cases b1 with
  | false =>
    refine ⟨false, (fun h => nomatch h), fun w v hv => ?_⟩
    obtain ⟨A5, c5, A6, c6, A7, c7, A8, c8, e, h5, h6, h7, h8⟩ := hv.open_
    subst e
    have B := Aside0.mk (below_alloc (Below.refl w.heap.size w) (.cells #[.int .i64 h.f0, .int .u64 h.f1, .int .u64 h.f2, .int .u64 h.f3, .int .u64 h.f4, .slice A5 h.f5.length c5, .slice A6 h.f6.length c6, .slice A7 h.f7.length c7, .slice A8 h.f8.length c8] 79))
    have X := Aside0.mk (Blk.new w #[.int .i64 h.f0, .int .u64 h.f1, .int .u64 h.f2, .int .u64 h.f3, .int .u64 h.f4, .slice A5 h.f5.length c5, .slice A6 h.f6.length c6, .slice A7 h.f7.length c7, .slice A8 h.f8.length c8] 79)
    have hx := fun i => X.out.cell i
    have H5 := Aside0.mk (h5.below B.out)
    have H6 := Aside0.mk (h6.below B.out)
    clear hv h5 h6 h7 h8
    go_enter Try.func61, Try.ntmps61
    go_wp2_with (first | (go_at_call 134; (with_reducible refine (C1.out _ _ H5.out).mono ?_); rintro e W ⟨rfl, hb⟩; replace B := Aside0.mk (below_then B.out B.out.size hb); replace H5 := Aside0.mk (H5.out.below hb); replace H6 := Aside0.mk (H6.out.below hb); replace X := Aside0.mk (X.out.below hb); replace hx := fun i => X.out.cell i; clear  hb))
    go_ret
    exact ⟨rfl, B.out⟩
  | true =>
    have n1 := hb1 rfl
    cases b2 with
    | false =>
      refine ⟨false, (fun h => nomatch h), fun w v hv => ?_⟩
      obtain ⟨A5, c5, A6, c6, A7, c7, A8, c8, e, h5, h6, h7, h8⟩ := hv.open_
      subst e
      have B := Aside0.mk (below_alloc (Below.refl w.heap.size w) (.cells #[.int .i64 h.f0, .int .u64 h.f1, .int .u64 h.f2, .int .u64 h.f3, .int .u64 h.f4, .slice A5 h.f5.length c5, .slice A6 h.f6.length c6, .slice A7 h.f7.length c7, .slice A8 h.f8.length c8] 79))
      have X := Aside0.mk (Blk.new w #[.int .i64 h.f0, .int .u64 h.f1, .int .u64 h.f2, .int .u64 h.f3, .int .u64 h.f4, .slice A5 h.f5.length c5, .slice A6 h.f6.length c6, .slice A7 h.f7.length c7, .slice A8 h.f8.length c8] 79)
      have hx := fun i => X.out.cell i
      have H5 := Aside0.mk (h5.below B.out)
      have H6 := Aside0.mk (h6.below B.out)
      clear hv h5 h6 h7 h8
      go_enter Try.func61, Try.ntmps61
      go_wp2_with (first | (go_at_call 134; (with_reducible refine (C1.out _ _ H5.out).mono ?_); rintro e W ⟨rfl, hb⟩; replace B := Aside0.mk (below_then B.out B.out.size hb); replace H5 := Aside0.mk (H5.out.below hb); replace H6 := Aside0.mk (H6.out.below hb); replace X := Aside0.mk (X.out.below hb); replace hx := fun i => X.out.cell i; clear  hb) | (go_at_call 134; (with_reducible refine (C2.out _ _ H6.out).mono ?_); rintro e W ⟨rfl, hb⟩; replace B := Aside0.mk (below_then B.out B.out.size hb); replace H5 := Aside0.mk (H5.out.below hb); replace H6 := Aside0.mk (H6.out.below hb); replace X := Aside0.mk (X.out.below hb); replace hx := fun i => X.out.cell i; clear  hb))
      go_ret
      exact ⟨rfl, B.out⟩
    | true =>
      have n2 := hb2 rfl
      by_cases c3 : h.f7.length ≤ 300
      · by_cases c4 : h.f8.length ≤ 300
        · refine ⟨true, fun _ => ⟨n1, n2, c3, c4⟩, fun w v hv => ?_⟩
          have d3 : decide ((h.f7.length : Int) ≤ 300) = true := decide_eq_true (by omega)
          have d4 : decide ((h.f8.length : Int) ≤ 300) = true := decide_eq_true (by omega)
          clear n1 n2 hb1 hb2
          obtain ⟨A5, c5, A6, c6, A7, c7, A8, c8, e, h5, h6, h7, h8⟩ := hv.open_
          subst e
          have B := Aside0.mk (below_alloc (Below.refl w.heap.size w) (.cells #[.int .i64 h.f0, .int .u64 h.f1, .int .u64 h.f2, .int .u64 h.f3, .int .u64 h.f4, .slice A5 h.f5.length c5, .slice A6 h.f6.length c6, .slice A7 h.f7.length c7, .slice A8 h.f8.length c8] 79))
          have X := Aside0.mk (Blk.new w #[.int .i64 h.f0, .int .u64 h.f1, .int .u64 h.f2, .int .u64 h.f3, .int .u64 h.f4, .slice A5 h.f5.length c5, .slice A6 h.f6.length c6, .slice A7 h.f7.length c7, .slice A8 h.f8.length c8] 79)
          have hx := fun i => X.out.cell i
          have H5 := Aside0.mk (h5.below B.out)
          have H6 := Aside0.mk (h6.below B.out)
          clear hv h5 h6 h7 h8
          go_enter Try.func61, Try.ntmps61
          go_wp2_with (first | (go_at_call 134; (with_reducible refine (C1.out _ _ H5.out).mono ?_); rintro e W ⟨rfl, hb⟩; replace B := Aside0.mk (below_then B.out B.out.size hb); replace H5 := Aside0.mk (H5.out.below hb); replace H6 := Aside0.mk (H6.out.below hb); replace X := Aside0.mk (X.out.below hb); replace hx := fun i => X.out.cell i; clear  hb) | (go_at_call 134; (with_reducible refine (C2.out _ _ H6.out).mono ?_); rintro e W ⟨rfl, hb⟩; replace B := Aside0.mk (below_then B.out B.out.size hb); replace H5 := Aside0.mk (H5.out.below hb); replace H6 := Aside0.mk (H6.out.below hb); replace X := Aside0.mk (X.out.below hb); replace hx := fun i => X.out.cell i; clear  hb))
          go_ret
          exact ⟨rfl, B.out⟩
        · refine ⟨false, (fun h => nomatch h), fun w v hv => ?_⟩
          have d3 : decide ((h.f7.length : Int) ≤ 300) = true := decide_eq_true (by omega)
          have d4 : decide ((h.f8.length : Int) ≤ 300) = false := decide_eq_false (by omega)
          clear n1 n2 hb1 hb2
          obtain ⟨A5, c5, A6, c6, A7, c7, A8, c8, e, h5, h6, h7, h8⟩ := hv.open_
          subst e
          have B := Aside0.mk (below_alloc (Below.refl w.heap.size w) (.cells #[.int .i64 h.f0, .int .u64 h.f1, .int .u64 h.f2, .int .u64 h.f3, .int .u64 h.f4, .slice A5 h.f5.length c5, .slice A6 h.f6.length c6, .slice A7 h.f7.length c7, .slice A8 h.f8.length c8] 79))
          have X := Aside0.mk (Blk.new w #[.int .i64 h.f0, .int .u64 h.f1, .int .u64 h.f2, .int .u64 h.f3, .int .u64 h.f4, .slice A5 h.f5.length c5, .slice A6 h.f6.length c6, .slice A7 h.f7.length c7, .slice A8 h.f8.length c8] 79)
          have hx := fun i => X.out.cell i
          have H5 := Aside0.mk (h5.below B.out)
          have H6 := Aside0.mk (h6.below B.out)
          clear hv h5 h6 h7 h8
          go_enter Try.func61, Try.ntmps61
          go_wp2_with (first | (go_at_call 134; (with_reducible refine (C1.out _ _ H5.out).mono ?_); rintro e W ⟨rfl, hb⟩; replace B := Aside0.mk (below_then B.out B.out.size hb); replace H5 := Aside0.mk (H5.out.below hb); replace H6 := Aside0.mk (H6.out.below hb); replace X := Aside0.mk (X.out.below hb); replace hx := fun i => X.out.cell i; clear  hb) | (go_at_call 134; (with_reducible refine (C2.out _ _ H6.out).mono ?_); rintro e W ⟨rfl, hb⟩; replace B := Aside0.mk (below_then B.out B.out.size hb); replace H5 := Aside0.mk (H5.out.below hb); replace H6 := Aside0.mk (H6.out.below hb); replace X := Aside0.mk (X.out.below hb); replace hx := fun i => X.out.cell i; clear  hb))
          go_ret
          exact ⟨rfl, B.out⟩
      · refine ⟨false, (fun h => nomatch h), fun w v hv => ?_⟩
        have d3 : decide ((h.f7.length : Int) ≤ 300) = false := decide_eq_false (by omega)
        clear n1 n2 hb1 hb2
        obtain ⟨A5, c5, A6, c6, A7, c7, A8, c8, e, h5, h6, h7, h8⟩ := hv.open_
        subst e
        have B := Aside0.mk (below_alloc (Below.refl w.heap.size w) (.cells #[.int .i64 h.f0, .int .u64 h.f1, .int .u64 h.f2, .int .u64 h.f3, .int .u64 h.f4, .slice A5 h.f5.length c5, .slice A6 h.f6.length c6, .slice A7 h.f7.length c7, .slice A8 h.f8.length c8] 79))
        have X := Aside0.mk (Blk.new w #[.int .i64 h.f0, .int .u64 h.f1, .int .u64 h.f2, .int .u64 h.f3, .int .u64 h.f4, .slice A5 h.f5.length c5, .slice A6 h.f6.length c6, .slice A7 h.f7.length c7, .slice A8 h.f8.length c8] 79)
        have hx := fun i => X.out.cell i
        have H5 := Aside0.mk (h5.below B.out)
        have H6 := Aside0.mk (h6.below B.out)
        clear hv h5 h6 h7 h8
        go_enter Try.func61, Try.ntmps61
        go_wp2_with (first | (go_at_call 134; (with_reducible refine (C1.out _ _ H5.out).mono ?_); rintro e W ⟨rfl, hb⟩; replace B := Aside0.mk (below_then B.out B.out.size hb); replace H5 := Aside0.mk (H5.out.below hb); replace H6 := Aside0.mk (H6.out.below hb); replace X := Aside0.mk (X.out.below hb); replace hx := fun i => X.out.cell i; clear  hb) | (go_at_call 134; (with_reducible refine (C2.out _ _ H6.out).mono ?_); rintro e W ⟨rfl, hb⟩; replace B := Aside0.mk (below_then B.out B.out.size hb); replace H5 := Aside0.mk (H5.out.below hb); replace H6 := Aside0.mk (H6.out.below hb); replace X := Aside0.mk (X.out.below hb); replace hx := fun i => X.out.cell i; clear  hb))
        go_ret
        exact ⟨rfl, B.out⟩
theorem floats11_c (h : Fh) (h5 : h.f5.length < 8796093022208) (h6 : h.f6.length < 8796093022208) (w : World) (v : Value) (hv : GI w v h) : Calls Try.prog 64 #[v] w fun e w' =>
    ∃ v', e = .returned v' ∧ GR w' v' h ∧ Below w.heap.size w w' := by
  obtain ⟨A5, c5, A6, c6, A7, c7, A8, c8, rfl, ⟨_, _, e5, h51, h52⟩, ⟨_, _, e6, h61, h62⟩, ⟨_, _, e7, h71, h72⟩, ⟨_, _, e8, h81, h82⟩⟩ := hv.open_
  cases e5; cases e6; cases e7; cases e8
  obtain ⟨k, hk⟩ : ∃ k, k = h.f5.length + h.f6.length + 1 := ⟨_, rfl⟩
  refine (tidepolelaw11_floats.calls k h.f0 h.f1 h.f2 h.f3 h.f4 A5 c5 h.f5 A6 c6 h.f6 _ A7 c7 h.f7 _ A8 c8 h.f8 h.f0 h.f1 h.f2 h.f3 h.f4 (h.f5.map toR) (h.f6.map toR) h.f7 h.f8 w h52 h51 h62 h61 (SI.Vu h71 h72) (SI.Vu h81 h82) ?_).mono ?_
  · unfold tidepolelaw11_floats.f
    rw [spans11_eq _ h5 k (by omega), Option.bind_some, spans11_eq _ h6 k (by omega), Option.bind_some]
  · rintro e w1 ⟨v5, v6, v7, v8, rfl, i5, i6, i7, i8, hb⟩
    exact ⟨_, rfl, ⟨v5, v6, v7, v8, rfl, .of_R i5, .of_R i6, SI.of_Vu i7, SI.of_Vu i8⟩, hb⟩
end Go.Proofs.Ytacgeafjilipdaa.P
namespace Go.Proofs.Ytacgeafjilipdaa.P
open Go.RowKit Go.Proofs.YtacgeafjilipdaaW.PrintWords Go.Proofs.YtacgeafjilipdaaW.PrintLast Go.Proofs.YtacgeafjilipdaaW.PrintMore
attribute [local go_sem] max2_int min2_int max_two min_two max_three min_three max_four min_four
set_option linter.unusedVariables false
set_option linter.unusedSimpArgs false
def tidepoleref11_Numbers.f (a0 : Int) (a1 : Int) (a2 : Int) (a3 : Int) (a4 : Int) (a5 : Int) (a6 : Int) (a7 : Int) : Option (Int) := if a0 = a1 then (if a2 = a3 then (if a5 < a4 then (some 3) else (if a7 < a6 then (some 4) else (some 0))) else (some 2)) else (some 1)
set_option maxHeartbeats 8000000 in
set_option maxRecDepth 100000 in
theorem tidepoleref11_Numbers.calls (a0 : Int) (a1 : Int) (a2 : Int) (a3 : Int) (a4 : Int) (a5 : Int) (a6 : Int) (a7 : Int) (r : Int) (w : World) (h : tidepoleref11_Numbers.f a0 a1 a2 a3 a4 a5 a6 a7 = some r) :
  Calls Try.prog 140 #[.int .i64 a0, .int .i64 a1, .int .u64 a2, .int .u64 a3, .int .u64 a4, .int .u64 a5, .int .u64 a6, .int .u64 a7] w fun e w' => e = .returned (.int .i64 r) ∧ Drawn0 w w' := by
 have H : (if a0 = a1 then (if a2 = a3 then (if a5 < a4 then (some 3) else (if a7 < a6 then (some 4) else (some 0))) else (some 2)) else (some 1)) = some r := h
 clear h
 by_cases c9 : a0 = a1
 ·rw [if_pos c9] at H
  have c9b0 : (a0 == a1) = true := beq_iff_eq.mpr c9
  have c9b1 : (a0 != a1) = false := bne_eq_false_iff_eq.mpr c9
  clear c9
  by_cases c10 : a2 = a3
  ·rw [if_pos c10] at H
   have c10b0 : (a2 == a3) = true := beq_iff_eq.mpr c10
   have c10b1 : (a2 != a3) = false := bne_eq_false_iff_eq.mpr c10
   clear c10
   by_cases c11 : a5 < a4
   ·rw [if_pos c11] at H
    have c11b0 : decide (a5 < a4) = true := decide_eq_true c11
    clear c11
    obtain rfl := Option.some.inj H
    go_enter Try.func140, Try.ntmps140
    go_wp2
    go_ret
    exact ⟨by first | rfl | (simp; done) | (simp [*]; done), by repeat (first | exact Drawn0.refl _ | apply Drawn0.step)⟩
   ·rw [if_neg c11] at H
    have c11b0 : decide (a5 < a4) = false := decide_eq_false c11
    clear c11
    by_cases c12 : a7 < a6
    ·rw [if_pos c12] at H
     have c12b0 : decide (a7 < a6) = true := decide_eq_true c12
     clear c12
     obtain rfl := Option.some.inj H
     go_enter Try.func140, Try.ntmps140
     go_wp2
     go_ret
     exact ⟨by first | rfl | (simp; done) | (simp [*]; done), by repeat (first | exact Drawn0.refl _ | apply Drawn0.step)⟩
    ·rw [if_neg c12] at H
     have c12b0 : decide (a7 < a6) = false := decide_eq_false c12
     clear c12
     obtain rfl := Option.some.inj H
     go_enter Try.func140, Try.ntmps140
     go_wp2
     go_ret
     exact ⟨by first | rfl | (simp; done) | (simp [*]; done), by repeat (first | exact Drawn0.refl _ | apply Drawn0.step)⟩
  ·rw [if_neg c10] at H
   have c10b0 : (a2 == a3) = false := beq_eq_false_iff_ne.mpr c10
   have c10b1 : (a2 != a3) = true := bne_iff_ne.mpr c10
   obtain rfl := Option.some.inj H
   go_enter Try.func140, Try.ntmps140
   go_wp2
   go_ret
   exact ⟨by first | rfl | (simp; done) | (simp [*]; done), by repeat (first | exact Drawn0.refl _ | apply Drawn0.step)⟩
 ·rw [if_neg c9] at H
  have c9b0 : (a0 == a1) = false := beq_eq_false_iff_ne.mpr c9
  have c9b1 : (a0 != a1) = true := bne_iff_ne.mpr c9
  obtain rfl := Option.some.inj H
  go_enter Try.func140, Try.ntmps140
  go_wp2
  go_ret
  exact ⟨by first | rfl | (simp; done) | (simp [*]; done), by repeat (first | exact Drawn0.refl _ | apply Drawn0.step)⟩
end Go.Proofs.Ytacgeafjilipdaa.P
namespace Go.Proofs.Ytacgeafjilipdaa.P
open Go.RowKit Go.Shelf Go.Proofs.YtacgeafjilipdaaW.PrintWords Go.Proofs.YtacgeafjilipdaaW.PrintLast Go.Proofs.YtacgeafjilipdaaW.PrintMore
set_option linter.unusedVariables false
set_option linter.unusedSimpArgs false
theorem numbers11_eq (s t z o ct c zc zz : Int) : tidepoleref11_Numbers.f s t z o ct c zc zz = some (numsV s t z o ct c zc zz) := by
  unfold tidepoleref11_Numbers.f numsV
  by_cases h1 : s = t <;> by_cases h2 : z = o <;> by_cases h3 : c < ct <;> by_cases h4 : zz < zc <;> simp [h1, h2, h3, h4]
end Go.Proofs.Ytacgeafjilipdaa.P
namespace Go.Proofs.Ytacgeafjilipdaa.P
open Go.RowKit Go.Shelf Go.Proofs.YtacgeafjilipdaaW.PrintWords Go.Proofs.YtacgeafjilipdaaW.PrintLast Go.Proofs.YtacgeafjilipdaaW.PrintMore
set_option linter.unusedVariables false
set_option linter.unusedSimpArgs false
def wfI (h : Hi) : Prop := i64 h.f0 ∧ u64 h.f1 ∧ u64 h.f2 ∧ u64 h.f3 ∧ u64 h.f4 ∧ wfSps h.f5 ∧ wfSps h.f6 ∧ i64s h.f7 ∧ i64s h.f8
instance (h : Hi) : Decidable (wfI h) := by unfold wfI; exact inferInstance
end Go.Proofs.Ytacgeafjilipdaa.P
namespace Go.Proofs.Ytacgeafjilipdaa.P
open Go.RowKit Go.Shelf Go.Proofs.YtacgeafjilipdaaW.PrintWords Go.Proofs.YtacgeafjilipdaaW.PrintLast Go.Proofs.YtacgeafjilipdaaW.PrintMore
set_option linter.unusedVariables false
set_option linter.unusedSimpArgs false
theorem zipLU : ∀ (ps v : List Int), ps.length = v.length → (List.zipWith (fun p x => (⟨p, x⟩ : Pu)) ps v).map (·.f0) = ps ∧ (List.zipWith (fun p x => (⟨p, x⟩ : Pu)) ps v).map (·.f1) = v
  | [], [], _ => ⟨rfl, rfl⟩
  | p :: ps, x :: v, h => by have := zipLU ps v (by simpa using h); exact ⟨by simp only [List.zipWith_cons_cons, List.map_cons, this.1], by simp only [List.zipWith_cons_cons, List.map_cons, this.2]⟩
  | [], _ :: _, h => by simp at h
  | _ :: _, [], h => by simp at h
theorem sideF_bounds {l : List Sp} {c : List Int} (h0 : (sideF l c).2 = 0) : (∀ p ∈ (sideF l c).1, -1048576 ≤ p.f0 ∧ p.f0 ≤ 1048576) ∧ (sideF l c).1.length = c.length ∧ (sideF l c).1.map (·.f0) = plN 0 l ∧ spCheck l = 0 ∧ (sideF l c).1.map (·.f1) = c ∧ c.any (fun v => !rightF v) = false := by
  unfold sideF at h0 ⊢
  by_cases c1 : spCheck l = 0
  rotate_left
  · rw [if_neg c1] at h0; exact absurd h0 c1
  rw [if_pos c1] at h0 ⊢
  by_cases c2 : cntN l = c.length
  rotate_left
  · rw [if_neg c2] at h0; cases h0
  rw [if_pos c2] at h0 ⊢
  by_cases c3 : c.any (fun v => !rightF v) = true
  · rw [if_pos c3] at h0; cases h0
  rw [if_neg c3]
  have hr := rises_of_right c1
  have hpl := plN_length l 0 (fun s hs => (spRight_pos l _ _ _ (spCheck_zero c1).2 s hs).1)
  have hz := zipLU (plN 0 l) c (by omega)
  refine ⟨fun y hy => ?_, by simp; omega, hz.1, c1, hz.2, by simpa using c3⟩
  have : y.f0 ∈ plN 0 l := by
    obtain ⟨i, hi, rfl⟩ := List.mem_iff_getElem.1 hy
    simp only [List.getElem_zipWith]; exact List.getElem_mem _
  exact rises_i64 hr _ this
def headF (h : Fh) : Int := if h.f0 < -4 ∨ h.f0 > 8 then 21 else if rightF h.f1 = false then 11 else if (!rightF h.f2 || !rightF h.f3) = true then 22 else 0
theorem checkF_eq (h : Fh) : checkF h = if headF h ≠ 0 then headF h else if (sideF h.f5 h.f7).2 ≠ 0 then (sideF h.f5 h.f7).2 else (sideF h.f6 h.f8).2 := by
  unfold checkF openF headF
  by_cases c1 : h.f0 < -4 ∨ h.f0 > 8
  · rw [if_pos c1, if_pos c1, if_pos (by omega)]
  rw [if_neg c1, if_neg c1]
  by_cases c2 : rightF h.f1 = false
  · rw [if_pos c2, if_pos c2, if_pos (by omega)]
  rw [if_neg c2, if_neg c2]
  by_cases c3 : (!rightF h.f2 || !rightF h.f3) = true
  · rw [if_pos c3, if_pos c3, if_pos (by omega)]
  rw [if_neg c3, if_neg c3, if_neg (c := (0 : Int) ≠ 0) (by omega)]
  by_cases c4 : (sideF h.f5 h.f7).2 ≠ 0
  · rw [if_pos c4, if_pos c4]
  rw [if_neg c4, if_neg c4]
  by_cases c5 : (sideF h.f6 h.f8).2 ≠ 0
  · rw [if_pos c5]
  · rw [if_neg c5]; exact (Decidable.not_not.1 c5).symm
theorem openF_right {h : Fh} (hc : checkF h = 0) : openF h = ((sideF h.f5 h.f7).1, (sideF h.f6 h.f8).1, 0) := by
  unfold checkF openF at *
  split at hc
  · cases hc
  split at hc
  · cases hc
  split at hc
  · cases hc
  split at hc
  · rename_i h3; exact absurd hc h3
  split at hc
  · rename_i h3; exact absurd hc h3
  rename_i h1 h2 h3 h4 h5
  rw [if_neg h1, if_neg h2, if_neg h3, if_neg h4, if_neg h5]
theorem checkF_zero {h : Fh} (hc : checkF h = 0) : headF h = 0 ∧ (sideF h.f5 h.f7).2 = 0 ∧ (sideF h.f6 h.f8).2 = 0 := by
  rw [checkF_eq] at hc
  by_cases c1 : headF h = 0
  rotate_left
  · rw [if_pos c1] at hc; exact absurd hc c1
  rw [if_neg (by simp [c1])] at hc
  by_cases c2 : (sideF h.f5 h.f7).2 = 0
  rotate_left
  · rw [if_pos c2] at hc; exact absurd hc c2
  rw [if_neg (by simp [c2])] at hc
  exact ⟨c1, c2, hc⟩
def sameNumsF (a b : Fh) : Prop := a.f0 = b.f0 ∧ a.f1 = b.f1 ∧ a.f2 = b.f2 ∧ a.f3 = b.f3 ∧ a.f4 = b.f4
instance (a b : Fh) : Decidable (sameNumsF a b) := by unfold sameNumsF; exact inferInstance
end Go.Proofs.Ytacgeafjilipdaa.P
namespace Go.Proofs.Ytacgeafjilipdaa.P
open Go.RowKit Go.Proofs.YtacgeafjilipdaaW.PrintWords Go.Proofs.YtacgeafjilipdaaW.PrintLast Go.Proofs.YtacgeafjilipdaaW.PrintMore
attribute [local go_sem] max2_int min2_int max_two min_two max_three min_three max_four min_four
set_option linter.unusedVariables false
set_option linter.unusedSimpArgs false
def tidepoleref10_Right.f (a0 : Int) : Option (Bool) := some (decide (a0 < 9218868437227405312))
set_option maxHeartbeats 8000000 in
set_option maxRecDepth 100000 in
theorem tidepoleref10_Right.calls (a0 : Int) (r : Bool) (w : World) (h : tidepoleref10_Right.f a0 = some r) :
  Calls Try.prog 99 #[.int .u64 a0] w fun e w' => e = .returned (.bool r) ∧ Drawn0 w w' := by
 have H : (some (decide (a0 < 9218868437227405312))) = some r := h
 clear h
 obtain rfl := Option.some.inj H
 go_enter Try.func99, Try.ntmps99
 go_wp2
 go_ret
 exact ⟨by first | rfl | (simp; done) | (simp [*]; done), by repeat (first | exact Drawn0.refl _ | apply Drawn0.step)⟩
def tidepoleref10_Side.l0 : Nat → List Int → Int → Option (Int)
 | 0, _, _ => none
 | k + 1, x1, x6 => if x6 < (x1.length : Int) then (if 0 ≤ x6 then ((tidepoleref10_Right.f (rd x1 x6)).bind fun t106 => (if t106 = true then (tidepoleref10_Side.l0 k x1 (wrap64 (x6 + 1))) else (some 22))) else (none)) else (some 0)
def tidepoleref10_Side.f (k : Nat) (l0 : List (S147)) (l1 : List Int) : Option (Int) := (tidepoleref06_Check.f k l0).bind fun t101 => (if t101 = 0 then ((tidepoleref06_Places.f k l0).bind fun t102 => (if (t102.length : Int) = (l1.length : Int) then (tidepoleref10_Side.l0 k l1 0) else (some 23))) else (some t101))
set_option maxHeartbeats 8000000 in
set_option maxRecDepth 100000 in
theorem tidepoleref10_Side.calls (k : Nat) (A0 : Option Addr) (c0 : Nat) (l0 : List (S147)) (A1 : Option Addr) (c1 : Nat) (l1 : List Int) (r : Int) (w : World) (hr0 : Kd.C k147 w A0 l0.length l0) (hc0 : l0.length ≤ c0) (hr1 : Kd.C (Kd.int .u64) w A1 l1.length l1) (hc1 : l1.length ≤ c1) (h : tidepoleref10_Side.f k l0 l1 = some r) :
  Calls Try.prog 144 #[.slice A0 l0.length c0, .slice A1 l1.length c1] w fun e w' => e = .returned (.int .i64 r) ∧ Below w.heap.size w w' := by
 have HR0 := Aside0.mk hr0
 have HC0 := Aside0.mk hc0
 clear hr0 hc0
 have HR1 := Aside0.mk hr1
 have HC1 := Aside0.mk hc1
 clear hr1 hc1
 have HB := Aside0.mk (Below.refl w.heap.size w)
 have H : ((tidepoleref06_Check.f k l0).bind fun t101 => (if t101 = 0 then ((tidepoleref06_Places.f k l0).bind fun t102 => (if (t102.length : Int) = (l1.length : Int) then (tidepoleref10_Side.l0 k l1 0) else (some 23))) else (some t101))) = some r := h
 clear h
 replace H := Option.bind_eq_some_iff.mp H
 obtain ⟨t101, A30, H⟩ := H
 replace H : (if t101 = 0 then ((tidepoleref06_Places.f k l0).bind fun t102 => (if (t102.length : Int) = (l1.length : Int) then (tidepoleref10_Side.l0 k l1 0) else (some 23))) else (some t101)) = some r := H
 have A3 := Aside0.mk A30
 clear A30
 by_cases c4 : t101 = 0
 ·rw [if_pos c4] at H
  have c4b0 : (t101 == 0) = true := beq_iff_eq.mpr c4
  have c4b1 : (t101 != 0) = false := bne_eq_false_iff_eq.mpr c4
  clear c4
  replace H := Option.bind_eq_some_iff.mp H
  obtain ⟨t102, A50, H⟩ := H
  replace H : (if (t102.length : Int) = (l1.length : Int) then (tidepoleref10_Side.l0 k l1 0) else (some 23)) = some r := H
  have A5 := Aside0.mk A50
  clear A50
  by_cases c6 : (t102.length : Int) = (l1.length : Int)
  ·rw [if_pos c6] at H
   have c6b0 : ((t102.length : Int) == (l1.length : Int)) = true := beq_iff_eq.mpr c6
   have c6b1 : ((t102.length : Int) != (l1.length : Int)) = false := bne_eq_false_iff_eq.mpr c6
   have c6b2 : (t102.length == l1.length) = true := by first | simpa using c6 | (simp at c6 ⊢; omega)
   clear c6
   have H' := Aside0.mk H
   clear H
   go_enter Try.func144, Try.ntmps144
   go_wp2_with (first | ((with_reducible refine gate_callee (f := 46) rfl ?_); refine goesL_ (some 8) rfl rfl Try.func46 (by kernel_rfl) rfl #[.slice A0 l0.length c0] rfl (by (try simp only [List.map_toArray, List.map_cons, List.map_nil]); first | done | rfl | (simp only [List.length_drop, List.length_take]; rfl)) ?_; (with_reducible refine (tidepoleref06_Check.calls k _ _ l0 t101 _ ?side1 ?side2 A3.out).mono ?_); (case side1 => repeat (first | exact HR0.out | (with_reducible refine Kd.C_alloc ?_ _) | (with_reducible refine Kd.C_drewN ?_ _) | (with_reducible refine Kd.C_drew ?_))); (case side2 => exact HC0.out); rintro e w7 ⟨rfl, hb⟩; refine ⟨_, rfl, ?_⟩; have n0_ := Aside0.mk (below_step (by repeat (first | (with_reducible first | exact HB.out | apply below_alloc | apply pw_below_drewN | apply below_drew1) | exact HB.out)) hb); clear HB; have HB := n0_; clear n0_; (try clear hb); (try clear hb2); (try clear hk); (try clear hi); clear A3) | ((with_reducible refine gate_callee (f := 34) rfl ?_); refine goesL_ (some 13) rfl rfl Try.func34 (by kernel_rfl) rfl #[.slice A0 l0.length c0] rfl (by (try simp only [List.map_toArray, List.map_cons, List.map_nil]); first | done | rfl | (simp only [List.length_drop, List.length_take]; rfl)) ?_; (with_reducible refine (tidepoleref06_Places.calls k _ _ l0 t102 _ ?side1 ?side2 A5.out).mono ?_); (case side1 => repeat (first | exact (Kd.C_below HR0.out HB.out) | (with_reducible refine Kd.C_alloc ?_ _) | (with_reducible refine Kd.C_drewN ?_ _) | (with_reducible refine Kd.C_drew ?_))); (case side2 => exact HC0.out); rintro e w8 ⟨v103, rfl, ho0, hb⟩; refine ⟨_, rfl, ?_⟩; have n0_ := Aside0.mk (Kd.R_lower ho0 (below_size (by repeat (first | (with_reducible first | exact HB.out | apply below_alloc | apply pw_below_drewN | apply below_drew1) | exact HB.out)))); have n1_ := Aside0.mk (below_step (by repeat (first | (with_reducible first | exact HB.out | apply below_alloc | apply pw_below_drewN | apply below_drew1) | exact HB.out)) hb); clear HB; have HO104 := n0_; have HB := n1_; clear n0_ n1_; (try clear hb); (try clear hb2); (try clear hk); (try clear hi); (try clear ho0); clear A5; obtain ⟨Ao9, co9, eo9⟩ := Kd.R_slice HO104.out; subst eo9))
   go_loopg [6] k (fun kq v6 w' => ∃ (x6_1 : Int), v6 = .int .i64 x6_1 ∧ Aside0 (tidepoleref10_Side.l0 kq l1 x6_1 = some r) ∧ Aside0 (kq ≤ k) ∧ Aside0 (Below w.heap.size w w'))
   case atStart => exact ⟨(0), (by first | rfl | (simp; done) | (simp [*]; done)), H', ⟨Nat.le_refl _⟩, ⟨by repeat (first | (with_reducible first | exact HB.out | apply below_alloc | apply pw_below_drewN | apply below_drew1) | exact HB.out)⟩⟩
   case round =>
    clear H'
    try clear c1
    try clear p2
    try clear c3
    try clear c4
    try clear c4b0
    try clear c4b1
    try clear c6
    try clear c6b0
    try clear c6b1
    try clear c6b2
    obtain ⟨x6_1, rfl, HA, HK1, HB⟩ := hrel
    cases gk with
    | zero => exact absurd HA.out (by simp [tidepoleref10_Side.l0])
    | succ k1 =>
     have H := HA.out
     clear HA
     simp only [tidepoleref10_Side.l0] at H
     by_cases c10 : x6_1 < (l1.length : Int)
     ·rw [if_pos c10] at H
      have c10b0 : decide (x6_1 < (l1.length : Int)) = true := decide_eq_true c10
      clear c10
      by_cases c11 : 0 ≤ x6_1
      ·rw [if_pos c11] at H
       have c11b0 : decide (0 ≤ x6_1) = true := decide_eq_true c11
       clear c11
       replace H := Option.bind_eq_some_iff.mp H
       obtain ⟨t106, A120, H⟩ := H
       replace H : (if t106 = true then (tidepoleref10_Side.l0 k1 l1 (wrap64 (x6_1 + 1))) else (some 22)) = some r := H
       have A12 := Aside0.mk A120
       clear A120
       by_cases c13 : t106 = true
       ·subst c13
        have H1 : (tidepoleref10_Side.l0 k1 l1 (wrap64 (x6_1 + 1))) = some r := by rw [if_pos rfl] at H; exact H
        clear H
        have H := H1
        clear H1
        have H' := Aside0.mk H
        clear H
        have p105 : 0 ≤ (x6_1 : Int) := of_decide_eq_true (by first | (with_reducible assumption) | assumption)
        have q105 : x6_1 < (l1.length : Int) := of_decide_eq_true (by first | (with_reducible assumption) | assumption)
        obtain ⟨ad105, e105, hx105_0⟩ := Kd.at_int HR1.out x6_1 p105 q105
        cases e105
        replace hx105_0 := (HB.out.cell (World.block_lt_of_cell? w _ hx105_0)).trans hx105_0
        replace p105 := eq_true p105
        replace q105 := eq_true q105
        go_wp2_with (first | ((with_reducible refine gate_callee (f := 99) rfl ?_); refine goesL_ (some 28) rfl rfl Try.func99 (by kernel_rfl) rfl #[.int .u64 (rd l1 x6_1)] rfl (by (try simp only [List.map_toArray, List.map_cons, List.map_nil]); first | done | rfl | (simp only [List.length_drop, List.length_take]; rfl)) ?_; (with_reducible refine (tidepoleref10_Right.calls (rd l1 x6_1) true _ A12.out).mono ?_); rintro e w' ⟨rfl, ⟨nd, rfl⟩⟩; refine ⟨_, rfl, ?_⟩; clear A12))
        go_roundg k1
        case measure => have := HK1.out; omega
        case rel => exact ⟨(wrap64 (x6_1 + 1)), (by first | rfl | (simp; done) | (simp [*]; done)), H', ⟨by have := HK1.out; omega⟩, ⟨by repeat (first | (with_reducible first | exact HB.out | apply below_alloc | apply pw_below_drewN | apply below_drew1) | exact HB.out)⟩⟩
       ·replace c13 := Bool.eq_false_iff.mpr c13
        subst c13
        have H1 : (some 22) = some r := by rw [if_neg (show ¬ (false = true) by decide)] at H; exact H
        clear H
        have H := H1
        clear H1
        obtain rfl := Option.some.inj H
        have p105 : 0 ≤ (x6_1 : Int) := of_decide_eq_true (by first | (with_reducible assumption) | assumption)
        have q105 : x6_1 < (l1.length : Int) := of_decide_eq_true (by first | (with_reducible assumption) | assumption)
        obtain ⟨ad105, e105, hx105_0⟩ := Kd.at_int HR1.out x6_1 p105 q105
        cases e105
        replace hx105_0 := (HB.out.cell (World.block_lt_of_cell? w _ hx105_0)).trans hx105_0
        replace p105 := eq_true p105
        replace q105 := eq_true q105
        go_wp2_with (first | ((with_reducible refine gate_callee (f := 99) rfl ?_); refine goesL_ (some 28) rfl rfl Try.func99 (by kernel_rfl) rfl #[.int .u64 (rd l1 x6_1)] rfl (by (try simp only [List.map_toArray, List.map_cons, List.map_nil]); first | done | rfl | (simp only [List.length_drop, List.length_take]; rfl)) ?_; (with_reducible refine (tidepoleref10_Right.calls (rd l1 x6_1) false _ A12.out).mono ?_); rintro e w' ⟨rfl, ⟨nd, rfl⟩⟩; refine ⟨_, rfl, ?_⟩; clear A12))
        go_ret
        exact ⟨by first | rfl | (simp [errW_none, errW_some] <;> rfl) | (simp [*, errW_none, errW_some] <;> rfl), by repeat (first | (with_reducible first | exact HB.out | apply below_alloc | apply pw_below_drewN | apply below_drew1) | exact HB.out)⟩
      ·rw [if_neg c11] at H
       exact absurd H (by simp)
     ·rw [if_neg c10] at H
      have c10b0 : decide (x6_1 < (l1.length : Int)) = false := decide_eq_false c10
      clear c10
      obtain rfl := Option.some.inj H
      go_wp2
      go_ret
      exact ⟨by first | rfl | (simp [errW_none, errW_some] <;> rfl) | (simp [*, errW_none, errW_some] <;> rfl), by repeat (first | (with_reducible first | exact HB.out | apply below_alloc | apply pw_below_drewN | apply below_drew1) | exact HB.out)⟩
  ·rw [if_neg c6] at H
   have c6b0 : ((t102.length : Int) == (l1.length : Int)) = false := beq_eq_false_iff_ne.mpr c6
   have c6b1 : ((t102.length : Int) != (l1.length : Int)) = true := bne_iff_ne.mpr c6
   have c6b2 : (t102.length == l1.length) = false := by first | simpa using c6 | (simp at c6 ⊢; omega)
   obtain rfl := Option.some.inj H
   go_enter Try.func144, Try.ntmps144
   go_wp2_with (first | ((with_reducible refine gate_callee (f := 46) rfl ?_); refine goesL_ (some 8) rfl rfl Try.func46 (by kernel_rfl) rfl #[.slice A0 l0.length c0] rfl (by (try simp only [List.map_toArray, List.map_cons, List.map_nil]); first | done | rfl | (simp only [List.length_drop, List.length_take]; rfl)) ?_; (with_reducible refine (tidepoleref06_Check.calls k _ _ l0 t101 _ ?side1 ?side2 A3.out).mono ?_); (case side1 => repeat (first | exact HR0.out | (with_reducible refine Kd.C_alloc ?_ _) | (with_reducible refine Kd.C_drewN ?_ _) | (with_reducible refine Kd.C_drew ?_))); (case side2 => exact HC0.out); rintro e w14 ⟨rfl, hb⟩; refine ⟨_, rfl, ?_⟩; have n0_ := Aside0.mk (below_step (by repeat (first | (with_reducible first | exact HB.out | apply below_alloc | apply pw_below_drewN | apply below_drew1) | exact HB.out)) hb); clear HB; have HB := n0_; clear n0_; (try clear hb); (try clear hb2); (try clear hk); (try clear hi); clear A3) | ((with_reducible refine gate_callee (f := 34) rfl ?_); refine goesL_ (some 13) rfl rfl Try.func34 (by kernel_rfl) rfl #[.slice A0 l0.length c0] rfl (by (try simp only [List.map_toArray, List.map_cons, List.map_nil]); first | done | rfl | (simp only [List.length_drop, List.length_take]; rfl)) ?_; (with_reducible refine (tidepoleref06_Places.calls k _ _ l0 t102 _ ?side1 ?side2 A5.out).mono ?_); (case side1 => repeat (first | exact (Kd.C_below HR0.out HB.out) | (with_reducible refine Kd.C_alloc ?_ _) | (with_reducible refine Kd.C_drewN ?_ _) | (with_reducible refine Kd.C_drew ?_))); (case side2 => exact HC0.out); rintro e w15 ⟨v103, rfl, ho0, hb⟩; refine ⟨_, rfl, ?_⟩; have n0_ := Aside0.mk (Kd.R_lower ho0 (below_size (by repeat (first | (with_reducible first | exact HB.out | apply below_alloc | apply pw_below_drewN | apply below_drew1) | exact HB.out)))); have n1_ := Aside0.mk (below_step (by repeat (first | (with_reducible first | exact HB.out | apply below_alloc | apply pw_below_drewN | apply below_drew1) | exact HB.out)) hb); clear HB; have HO104 := n0_; have HB := n1_; clear n0_ n1_; (try clear hb); (try clear hb2); (try clear hk); (try clear hi); (try clear ho0); clear A5; obtain ⟨Ao16, co16, eo16⟩ := Kd.R_slice HO104.out; subst eo16))
   go_ret
   exact ⟨by first | rfl | (simp [errW_none, errW_some] <;> rfl) | (simp [*, errW_none, errW_some] <;> rfl), by repeat (first | (with_reducible first | exact HB.out | apply below_alloc | apply pw_below_drewN | apply below_drew1) | exact HB.out)⟩
 ·rw [if_neg c4] at H
  have c4b0 : (t101 == 0) = false := beq_eq_false_iff_ne.mpr c4
  have c4b1 : (t101 != 0) = true := bne_iff_ne.mpr c4
  obtain rfl := Option.some.inj H
  go_enter Try.func144, Try.ntmps144
  go_wp2_with (first | ((with_reducible refine gate_callee (f := 46) rfl ?_); refine goesL_ (some 8) rfl rfl Try.func46 (by kernel_rfl) rfl #[.slice A0 l0.length c0] rfl (by (try simp only [List.map_toArray, List.map_cons, List.map_nil]); first | done | rfl | (simp only [List.length_drop, List.length_take]; rfl)) ?_; (with_reducible refine (tidepoleref06_Check.calls k _ _ l0 t101 _ ?side1 ?side2 A3.out).mono ?_); (case side1 => repeat (first | exact HR0.out | (with_reducible refine Kd.C_alloc ?_ _) | (with_reducible refine Kd.C_drewN ?_ _) | (with_reducible refine Kd.C_drew ?_))); (case side2 => exact HC0.out); rintro e w17 ⟨rfl, hb⟩; refine ⟨_, rfl, ?_⟩; have n0_ := Aside0.mk (below_step (by repeat (first | (with_reducible first | exact HB.out | apply below_alloc | apply pw_below_drewN | apply below_drew1) | exact HB.out)) hb); clear HB; have HB := n0_; clear n0_; (try clear hb); (try clear hb2); (try clear hk); (try clear hi); clear A3))
  go_ret
  exact ⟨by first | rfl | (simp [errW_none, errW_some] <;> rfl) | (simp [*, errW_none, errW_some] <;> rfl), by repeat (first | (with_reducible first | exact HB.out | apply below_alloc | apply pw_below_drewN | apply below_drew1) | exact HB.out)⟩
mutual
def tidepoleref10_Check.j0 : Nat → Bool → Int → Int → Int → Int → Int → List (S147) → List (S147) → List Int → List Int → Option (Int)
 | 0, _, _, _, _, _, _, _, _, _, _ => none
 | k + 1, x11, x102000, x102001, x102002, x102003, x102004, x102005, x102006, x102007, x102008 => if x11 = true then (some 21) else (if x102001 ≥ 9218868437227405312 then (some 11) else ((tidepoleref10_Right.f x102002).bind fun t102 => (if t102 = true then ((tidepoleref10_Right.f x102003).bind fun t103 => (tidepoleref10_Check.j1 k (!t103) x102000 x102001 x102002 x102003 x102004 x102005 x102006 x102007 x102008)) else (tidepoleref10_Check.j1 k true x102000 x102001 x102002 x102003 x102004 x102005 x102006 x102007 x102008))))
def tidepoleref10_Check.j1 : Nat → Bool → Int → Int → Int → Int → Int → List (S147) → List (S147) → List Int → List Int → Option (Int)
 | 0, _, _, _, _, _, _, _, _, _, _ => none
 | k + 1, x24, x102000, x102001, x102002, x102003, x102004, x102005, x102006, x102007, x102008 => if x24 = true then (some 22) else ((tidepoleref10_Side.f k x102005 x102007).bind fun t104 => (if t104 = 0 then ((tidepoleref10_Side.f k x102006 x102008).bind fun t105 => (some t105)) else (some t104)))
end
def tidepoleref10_Check.f (k : Nat) (a0_0 : Int) (a0_1 : Int) (a0_2 : Int) (a0_3 : Int) (a0_4 : Int) (l0_5 : List (S147)) (l0_6 : List (S147)) (l0_7 : List Int) (l0_8 : List Int) : Option (Int) := if a0_0 < (-4) then (tidepoleref10_Check.j0 k true a0_0 a0_1 a0_2 a0_3 a0_4 l0_5 l0_6 l0_7 l0_8) else (tidepoleref10_Check.j0 k (decide (a0_0 > 8)) a0_0 a0_1 a0_2 a0_3 a0_4 l0_5 l0_6 l0_7 l0_8)
set_option maxHeartbeats 8000000 in
set_option maxRecDepth 100000 in
theorem tidepoleref10_Check.calls (k : Nat) (a0_0 : Int) (a0_1 : Int) (a0_2 : Int) (a0_3 : Int) (a0_4 : Int) (A0_5 : Option Addr) (c0_5 : Nat) (l0_5 : List (S147)) (A0_6 : Option Addr) (c0_6 : Nat) (l0_6 : List (S147)) (A0_7 : Option Addr) (c0_7 : Nat) (l0_7 : List Int) (A0_8 : Option Addr) (c0_8 : Nat) (l0_8 : List Int) (r : Int) (w : World) (hr0_5 : Kd.C k147 w A0_5 l0_5.length l0_5) (hc0_5 : l0_5.length ≤ c0_5) (hr0_6 : Kd.C k147 w A0_6 l0_6.length l0_6) (hc0_6 : l0_6.length ≤ c0_6) (hr0_7 : Kd.C (Kd.int .u64) w A0_7 l0_7.length l0_7) (hc0_7 : l0_7.length ≤ c0_7) (hr0_8 : Kd.C (Kd.int .u64) w A0_8 l0_8.length l0_8) (hc0_8 : l0_8.length ≤ c0_8) (h : tidepoleref10_Check.f k a0_0 a0_1 a0_2 a0_3 a0_4 l0_5 l0_6 l0_7 l0_8 = some r) :
  Calls Try.prog 63 #[.agg #[.int .i64 a0_0, .int .u64 a0_1, .int .u64 a0_2, .int .u64 a0_3, .int .u64 a0_4, .slice A0_5 l0_5.length c0_5, .slice A0_6 l0_6.length c0_6, .slice A0_7 l0_7.length c0_7, .slice A0_8 l0_8.length c0_8]] w fun e w' => e = .returned (.int .i64 r) ∧ Below w.heap.size w w' := by
 have hu84 := Try.underlying84
 have HR0_5 := Aside0.mk hr0_5
 have HC0_5 := Aside0.mk hc0_5
 clear hr0_5 hc0_5
 have HR0_6 := Aside0.mk hr0_6
 have HC0_6 := Aside0.mk hc0_6
 clear hr0_6 hc0_6
 have HR0_7 := Aside0.mk hr0_7
 have HC0_7 := Aside0.mk hc0_7
 clear hr0_7 hc0_7
 have HR0_8 := Aside0.mk hr0_8
 have HC0_8 := Aside0.mk hc0_8
 clear hr0_8 hc0_8
 have HB := Aside0.mk (Below.refl w.heap.size w)
 have H : (if a0_0 < (-4) then (tidepoleref10_Check.j0 k true a0_0 a0_1 a0_2 a0_3 a0_4 l0_5 l0_6 l0_7 l0_8) else (tidepoleref10_Check.j0 k (decide (a0_0 > 8)) a0_0 a0_1 a0_2 a0_3 a0_4 l0_5 l0_6 l0_7 l0_8)) = some r := h
 clear h
 have HC2 := Aside0.mk H
 clear H
 go_enter Try.func63, Try.ntmps63
 go_upto_region 1 with (first | ((with_reducible refine gate_dst (N := 1) rfl ?_); refine box_event ?hg (N := 1) ?hd (cs := #[.int .i64 a0_0, .int .u64 a0_1, .int .u64 a0_2, .int .u64 a0_3, .int .u64 a0_4, .slice A0_5 l0_5.length c0_5, .slice A0_6 l0_6.length c0_6, .slice A0_7 l0_7.length c0_7, .slice A0_8 l0_8.length c0_8]) (t := 84) ?hr ?_; (case hd => rfl); (case hg => rfl); (case hr => first | (go_simp; done) | (go_simp; rfl)); intro gb101 hg w3 hbox hb; have n0_ := Aside0.mk (below_step (by repeat (first | (with_reducible first | exact HB.out | apply below_alloc | apply pw_below_drewN | apply below_drew1) | exact HB.out)) hb); have n1_ := Aside0.mk (hbox); have n2_ := Aside0.mk ((by rw [hg]; exact (below_size (by repeat (first | (with_reducible first | exact HB.out | apply below_alloc | apply pw_below_drewN | apply below_drew1) | exact HB.out))) : w.heap.size ≤ gb101)); have n3_ := Aside0.mk ((by rw [hg]; exact (below_size (by repeat (first | (with_reducible first | exact HB.out | apply below_alloc | apply pw_below_drewN | apply below_drew1) | exact HB.out))) : w.heap.size ≤ gb101)); clear HB; have HB := n0_; have BK101 := n1_; have GW101 := n2_; have GE101 := n3_; clear n0_ n1_ n2_ n3_; clear hb hbox hg))
 (try simp only [Act.put, List.setIfInBounds_toArray, List.set_cons_zero, List.set_cons_succ])
 go_cut [11] (fun v11 wc => ∃ (kq : Nat) (x11_1 : Bool), v11 = .bool x11_1 ∧ Aside0 (tidepoleref10_Check.j0 kq x11_1 a0_0 a0_1 a0_2 a0_3 a0_4 l0_5 l0_6 l0_7 l0_8 = some r) ∧ Aside0 (kq ≤ k) ∧ Aside0 (wc.heap[gb101]? = some (.cells #[.int .i64 a0_0, .int .u64 a0_1, .int .u64 a0_2, .int .u64 a0_3, .int .u64 a0_4, (.slice A0_5 l0_5.length c0_5), (.slice A0_6 l0_6.length c0_6), (.slice A0_7 l0_7.length c0_7), (.slice A0_8 l0_8.length c0_8)] 84 (0, 0))) ∧ Aside0 (Below w.heap.size w wc))
 case first =>
  have H := HC2.out
  clear HC2
  by_cases c4 : a0_0 < (-4)
  ·rw [if_pos c4] at H
   have c4b0 : decide (a0_0 < (-4)) = true := decide_eq_true c4
   clear c4
   (first | rw [c4b0] | (simp only [i64_w, i32_w]; rw [c4b0]) | skip)
   have H' := Aside0.mk H
   clear H
   have hcz5_0 : w3.cell? ⟨gb101, 0, none⟩ = some (.int .i64 a0_0) := (blk_cell BK101.out 0).trans rfl
   have hcz5_1 : w3.cell? ⟨gb101, 1, none⟩ = some (.int .u64 a0_1) := (blk_cell BK101.out 1).trans rfl
   have hcz5_2 : w3.cell? ⟨gb101, 2, none⟩ = some (.int .u64 a0_2) := (blk_cell BK101.out 2).trans rfl
   have hcz5_3 : w3.cell? ⟨gb101, 3, none⟩ = some (.int .u64 a0_3) := (blk_cell BK101.out 3).trans rfl
   have hcz5_4 : w3.cell? ⟨gb101, 4, none⟩ = some (.int .u64 a0_4) := (blk_cell BK101.out 4).trans rfl
   have hcz5_5 : w3.cell? ⟨gb101, 5, none⟩ = some (.slice A0_5 l0_5.length c0_5) := (blk_cell BK101.out 5).trans rfl
   have hcz5_6 : w3.cell? ⟨gb101, 6, none⟩ = some (.slice A0_6 l0_6.length c0_6) := (blk_cell BK101.out 6).trans rfl
   have hcz5_7 : w3.cell? ⟨gb101, 7, none⟩ = some (.slice A0_7 l0_7.length c0_7) := (blk_cell BK101.out 7).trans rfl
   have hcz5_8 : w3.cell? ⟨gb101, 8, none⟩ = some (.slice A0_8 l0_8.length c0_8) := (blk_cell BK101.out 8).trans rfl
   have hfz5_0 := blk_frozen BK101.out 0
   have hfz5_1 := blk_frozen BK101.out 1
   have hfz5_2 := blk_frozen BK101.out 2
   have hfz5_3 := blk_frozen BK101.out 3
   have hfz5_4 := blk_frozen BK101.out 4
   have hfz5_5 := blk_frozen BK101.out 5
   have hfz5_6 := blk_frozen BK101.out 6
   have hfz5_7 := blk_frozen BK101.out 7
   have hfz5_8 := blk_frozen BK101.out 8
   go_wp2
   go_meet
   case rel => exact ⟨_, (true), (by first | rfl | (simp; done) | (simp [*]; done)), H', ⟨by first | omega | exact Nat.le_refl _⟩, ⟨by (with_reducible repeat (first | refine blk_drewN ?_ _ | refine blk_drew ?_ | refine blk_alloc ?_ _)); exact BK101.out⟩, ⟨by repeat (first | (with_reducible first | exact HB.out | apply below_alloc | apply pw_below_drewN | apply below_drew1 | refine below_set ?_ GE101.out) | exact HB.out)⟩⟩
  ·rw [if_neg c4] at H
   have c4b0 : decide (a0_0 < (-4)) = false := decide_eq_false c4
   clear c4
   (first | rw [c4b0] | (simp only [i64_w, i32_w]; rw [c4b0]) | skip)
   have H' := Aside0.mk H
   clear H
   have hcz6_0 : w3.cell? ⟨gb101, 0, none⟩ = some (.int .i64 a0_0) := (blk_cell BK101.out 0).trans rfl
   have hcz6_1 : w3.cell? ⟨gb101, 1, none⟩ = some (.int .u64 a0_1) := (blk_cell BK101.out 1).trans rfl
   have hcz6_2 : w3.cell? ⟨gb101, 2, none⟩ = some (.int .u64 a0_2) := (blk_cell BK101.out 2).trans rfl
   have hcz6_3 : w3.cell? ⟨gb101, 3, none⟩ = some (.int .u64 a0_3) := (blk_cell BK101.out 3).trans rfl
   have hcz6_4 : w3.cell? ⟨gb101, 4, none⟩ = some (.int .u64 a0_4) := (blk_cell BK101.out 4).trans rfl
   have hcz6_5 : w3.cell? ⟨gb101, 5, none⟩ = some (.slice A0_5 l0_5.length c0_5) := (blk_cell BK101.out 5).trans rfl
   have hcz6_6 : w3.cell? ⟨gb101, 6, none⟩ = some (.slice A0_6 l0_6.length c0_6) := (blk_cell BK101.out 6).trans rfl
   have hcz6_7 : w3.cell? ⟨gb101, 7, none⟩ = some (.slice A0_7 l0_7.length c0_7) := (blk_cell BK101.out 7).trans rfl
   have hcz6_8 : w3.cell? ⟨gb101, 8, none⟩ = some (.slice A0_8 l0_8.length c0_8) := (blk_cell BK101.out 8).trans rfl
   have hfz6_0 := blk_frozen BK101.out 0
   have hfz6_1 := blk_frozen BK101.out 1
   have hfz6_2 := blk_frozen BK101.out 2
   have hfz6_3 := blk_frozen BK101.out 3
   have hfz6_4 := blk_frozen BK101.out 4
   have hfz6_5 := blk_frozen BK101.out 5
   have hfz6_6 := blk_frozen BK101.out 6
   have hfz6_7 := blk_frozen BK101.out 7
   have hfz6_8 := blk_frozen BK101.out 8
   go_wp2
   go_meet
   case rel => exact ⟨_, (decide (a0_0 > 8)), (by first | rfl | (simp; done) | (simp [*]; done)), H', ⟨by first | omega | exact Nat.le_refl _⟩, ⟨by (with_reducible repeat (first | refine blk_drewN ?_ _ | refine blk_drew ?_ | refine blk_alloc ?_ _)); exact BK101.out⟩, ⟨by repeat (first | (with_reducible first | exact HB.out | apply below_alloc | apply pw_below_drewN | apply below_drew1 | refine below_set ?_ GE101.out) | exact HB.out)⟩⟩
 case rest =>
  clear HC2
  try clear p2
  try clear c4
  try clear c4b0
  try clear c6
  try clear hcz5_0
  try clear hcz5_1
  try clear hcz5_2
  try clear hcz5_3
  try clear hcz5_4
  try clear hcz5_5
  try clear hcz5_6
  try clear hcz5_7
  try clear hcz5_8
  try clear hcz6_0
  try clear hcz6_1
  try clear hcz6_2
  try clear hcz6_3
  try clear hcz6_4
  try clear hcz6_5
  try clear hcz6_6
  try clear hcz6_7
  try clear hcz6_8
  try clear hfz5_0
  try clear hfz5_1
  try clear hfz5_2
  try clear hfz5_3
  try clear hfz5_4
  try clear hfz5_5
  try clear hfz5_6
  try clear hfz5_7
  try clear hfz5_8
  try clear hfz6_0
  try clear hfz6_1
  try clear hfz6_2
  try clear hfz6_3
  try clear hfz6_4
  try clear hfz6_5
  try clear hfz6_6
  try clear hfz6_7
  try clear hfz6_8
  obtain ⟨kq, x11_1, rfl, HA, HJ1, BK101, HB⟩ := hcut
  cases kq with
  | zero => exact absurd HA.out (by simp [tidepoleref10_Check.j0])
  | succ kj1 =>
   have H := HA.out
   clear HA
   simp only [tidepoleref10_Check.j0] at H
   by_cases c7 : x11_1 = true
   ·subst c7
    have H1 : (some 21) = some r := by rw [if_pos rfl] at H; exact H
    clear H
    have H := H1
    clear H1
    obtain rfl := Option.some.inj H
    go_wp2
    go_ret
    exact ⟨by first | rfl | (simp [errW_none, errW_some] <;> rfl) | (simp [*, errW_none, errW_some] <;> rfl), by repeat (first | (with_reducible first | exact HB.out | apply below_alloc | apply pw_below_drewN | apply below_drew1 | refine below_set ?_ GE101.out) | exact HB.out)⟩
   ·replace c7 := Bool.eq_false_iff.mpr c7
    subst c7
    have H1 : (if a0_1 ≥ 9218868437227405312 then (some 11) else ((tidepoleref10_Right.f a0_2).bind fun t102 => (if t102 = true then ((tidepoleref10_Right.f a0_3).bind fun t103 => (tidepoleref10_Check.j1 kj1 (!t103) a0_0 a0_1 a0_2 a0_3 a0_4 l0_5 l0_6 l0_7 l0_8)) else (tidepoleref10_Check.j1 kj1 true a0_0 a0_1 a0_2 a0_3 a0_4 l0_5 l0_6 l0_7 l0_8)))) = some r := by rw [if_neg (show ¬ (false = true) by decide)] at H; exact H
    clear H
    have H := H1
    clear H1
    by_cases c8 : a0_1 ≥ 9218868437227405312
    ·rw [if_pos c8] at H
     have c8b0 : decide (9218868437227405312 ≤ a0_1) = true := decide_eq_true c8
     clear c8
     obtain rfl := Option.some.inj H
     have hcz9_0 : wc.cell? ⟨gb101, 0, none⟩ = some (.int .i64 a0_0) := (blk_cell BK101.out 0).trans rfl
     have hcz9_1 : wc.cell? ⟨gb101, 1, none⟩ = some (.int .u64 a0_1) := (blk_cell BK101.out 1).trans rfl
     have hcz9_2 : wc.cell? ⟨gb101, 2, none⟩ = some (.int .u64 a0_2) := (blk_cell BK101.out 2).trans rfl
     have hcz9_3 : wc.cell? ⟨gb101, 3, none⟩ = some (.int .u64 a0_3) := (blk_cell BK101.out 3).trans rfl
     have hcz9_4 : wc.cell? ⟨gb101, 4, none⟩ = some (.int .u64 a0_4) := (blk_cell BK101.out 4).trans rfl
     have hcz9_5 : wc.cell? ⟨gb101, 5, none⟩ = some (.slice A0_5 l0_5.length c0_5) := (blk_cell BK101.out 5).trans rfl
     have hcz9_6 : wc.cell? ⟨gb101, 6, none⟩ = some (.slice A0_6 l0_6.length c0_6) := (blk_cell BK101.out 6).trans rfl
     have hcz9_7 : wc.cell? ⟨gb101, 7, none⟩ = some (.slice A0_7 l0_7.length c0_7) := (blk_cell BK101.out 7).trans rfl
     have hcz9_8 : wc.cell? ⟨gb101, 8, none⟩ = some (.slice A0_8 l0_8.length c0_8) := (blk_cell BK101.out 8).trans rfl
     have hfz9_0 := blk_frozen BK101.out 0
     have hfz9_1 := blk_frozen BK101.out 1
     have hfz9_2 := blk_frozen BK101.out 2
     have hfz9_3 := blk_frozen BK101.out 3
     have hfz9_4 := blk_frozen BK101.out 4
     have hfz9_5 := blk_frozen BK101.out 5
     have hfz9_6 := blk_frozen BK101.out 6
     have hfz9_7 := blk_frozen BK101.out 7
     have hfz9_8 := blk_frozen BK101.out 8
     go_wp2
     go_ret
     exact ⟨by first | rfl | (simp [errW_none, errW_some] <;> rfl) | (simp [*, errW_none, errW_some] <;> rfl), by repeat (first | (with_reducible first | exact HB.out | apply below_alloc | apply pw_below_drewN | apply below_drew1 | refine below_set ?_ GE101.out) | exact HB.out)⟩
    ·rw [if_neg c8] at H
     have c8b0 : decide (9218868437227405312 ≤ a0_1) = false := decide_eq_false c8
     clear c8
     have HC10 := Aside0.mk H
     clear H
     have hcz11_0 : wc.cell? ⟨gb101, 0, none⟩ = some (.int .i64 a0_0) := (blk_cell BK101.out 0).trans rfl
     have hcz11_1 : wc.cell? ⟨gb101, 1, none⟩ = some (.int .u64 a0_1) := (blk_cell BK101.out 1).trans rfl
     have hcz11_2 : wc.cell? ⟨gb101, 2, none⟩ = some (.int .u64 a0_2) := (blk_cell BK101.out 2).trans rfl
     have hcz11_3 : wc.cell? ⟨gb101, 3, none⟩ = some (.int .u64 a0_3) := (blk_cell BK101.out 3).trans rfl
     have hcz11_4 : wc.cell? ⟨gb101, 4, none⟩ = some (.int .u64 a0_4) := (blk_cell BK101.out 4).trans rfl
     have hcz11_5 : wc.cell? ⟨gb101, 5, none⟩ = some (.slice A0_5 l0_5.length c0_5) := (blk_cell BK101.out 5).trans rfl
     have hcz11_6 : wc.cell? ⟨gb101, 6, none⟩ = some (.slice A0_6 l0_6.length c0_6) := (blk_cell BK101.out 6).trans rfl
     have hcz11_7 : wc.cell? ⟨gb101, 7, none⟩ = some (.slice A0_7 l0_7.length c0_7) := (blk_cell BK101.out 7).trans rfl
     have hcz11_8 : wc.cell? ⟨gb101, 8, none⟩ = some (.slice A0_8 l0_8.length c0_8) := (blk_cell BK101.out 8).trans rfl
     have hfz11_0 := blk_frozen BK101.out 0
     have hfz11_1 := blk_frozen BK101.out 1
     have hfz11_2 := blk_frozen BK101.out 2
     have hfz11_3 := blk_frozen BK101.out 3
     have hfz11_4 := blk_frozen BK101.out 4
     have hfz11_5 := blk_frozen BK101.out 5
     have hfz11_6 := blk_frozen BK101.out 6
     have hfz11_7 := blk_frozen BK101.out 7
     have hfz11_8 := blk_frozen BK101.out 8
     go_upto_region 5 with (fail)
     go_cut [24] (fun v24 wc => ∃ (kq : Nat) (x24_9 : Bool), v24 = .bool x24_9 ∧ Aside0 (tidepoleref10_Check.j1 kq x24_9 a0_0 a0_1 a0_2 a0_3 a0_4 l0_5 l0_6 l0_7 l0_8 = some r) ∧ Aside0 (kq ≤ kj1) ∧ Aside0 (wc.heap[gb101]? = some (.cells #[.int .i64 a0_0, .int .u64 a0_1, .int .u64 a0_2, .int .u64 a0_3, .int .u64 a0_4, (.slice A0_5 l0_5.length c0_5), (.slice A0_6 l0_6.length c0_6), (.slice A0_7 l0_7.length c0_7), (.slice A0_8 l0_8.length c0_8)] 84 (0, 0))) ∧ Aside0 (Below w.heap.size w wc))
     case first =>
      have H := HC10.out
      clear HC10
      replace H := Option.bind_eq_some_iff.mp H
      obtain ⟨t102, A120, H⟩ := H
      replace H : (if t102 = true then ((tidepoleref10_Right.f a0_3).bind fun t103 => (tidepoleref10_Check.j1 kj1 (!t103) a0_0 a0_1 a0_2 a0_3 a0_4 l0_5 l0_6 l0_7 l0_8)) else (tidepoleref10_Check.j1 kj1 true a0_0 a0_1 a0_2 a0_3 a0_4 l0_5 l0_6 l0_7 l0_8)) = some r := H
      have A12 := Aside0.mk A120
      clear A120
      by_cases c13 : t102 = true
      ·subst c13
       have H1 : ((tidepoleref10_Right.f a0_3).bind fun t103 => (tidepoleref10_Check.j1 kj1 (!t103) a0_0 a0_1 a0_2 a0_3 a0_4 l0_5 l0_6 l0_7 l0_8)) = some r := by rw [if_pos rfl] at H; exact H
       clear H
       have H := H1
       clear H1
       replace H := Option.bind_eq_some_iff.mp H
       obtain ⟨t103, A140, H⟩ := H
       replace H : (tidepoleref10_Check.j1 kj1 (!t103) a0_0 a0_1 a0_2 a0_3 a0_4 l0_5 l0_6 l0_7 l0_8) = some r := H
       have A14 := Aside0.mk A140
       clear A140
       have H' := Aside0.mk H
       clear H
       have hcz15_0 : wc.cell? ⟨gb101, 0, none⟩ = some (.int .i64 a0_0) := (blk_cell BK101.out 0).trans rfl
       have hcz15_1 : wc.cell? ⟨gb101, 1, none⟩ = some (.int .u64 a0_1) := (blk_cell BK101.out 1).trans rfl
       have hcz15_2 : wc.cell? ⟨gb101, 2, none⟩ = some (.int .u64 a0_2) := (blk_cell BK101.out 2).trans rfl
       have hcz15_3 : wc.cell? ⟨gb101, 3, none⟩ = some (.int .u64 a0_3) := (blk_cell BK101.out 3).trans rfl
       have hcz15_4 : wc.cell? ⟨gb101, 4, none⟩ = some (.int .u64 a0_4) := (blk_cell BK101.out 4).trans rfl
       have hcz15_5 : wc.cell? ⟨gb101, 5, none⟩ = some (.slice A0_5 l0_5.length c0_5) := (blk_cell BK101.out 5).trans rfl
       have hcz15_6 : wc.cell? ⟨gb101, 6, none⟩ = some (.slice A0_6 l0_6.length c0_6) := (blk_cell BK101.out 6).trans rfl
       have hcz15_7 : wc.cell? ⟨gb101, 7, none⟩ = some (.slice A0_7 l0_7.length c0_7) := (blk_cell BK101.out 7).trans rfl
       have hcz15_8 : wc.cell? ⟨gb101, 8, none⟩ = some (.slice A0_8 l0_8.length c0_8) := (blk_cell BK101.out 8).trans rfl
       have hfz15_0 := blk_frozen BK101.out 0
       have hfz15_1 := blk_frozen BK101.out 1
       have hfz15_2 := blk_frozen BK101.out 2
       have hfz15_3 := blk_frozen BK101.out 3
       have hfz15_4 := blk_frozen BK101.out 4
       have hfz15_5 := blk_frozen BK101.out 5
       have hfz15_6 := blk_frozen BK101.out 6
       have hfz15_7 := blk_frozen BK101.out 7
       have hfz15_8 := blk_frozen BK101.out 8
       go_wp2_with (first | ((with_reducible refine gate_callee (f := 99) rfl ?_); refine goesL_ (some 17) rfl rfl Try.func99 (by kernel_rfl) rfl #[.int .u64 a0_2] rfl (by (try simp only [List.map_toArray, List.map_cons, List.map_nil]); first | done | rfl | (simp only [List.length_drop, List.length_take]; rfl)) ?_; (with_reducible refine (tidepoleref10_Right.calls a0_2 true _ A12.out).mono ?_); rintro e w' ⟨rfl, ⟨nd, rfl⟩⟩; refine ⟨_, rfl, ?_⟩; clear A12) | (go_at_call 99; (with_reducible refine (tidepoleref10_Right.calls a0_3 t103 _ A14.out).mono ?_); rintro e w' ⟨rfl, ⟨nd, rfl⟩⟩; clear A14))
       go_meet
       case rel => exact ⟨_, (!t103), (by first | rfl | (simp; done) | (simp [*]; done)), H', ⟨by have := HJ1.out; first | omega | exact Nat.le_refl _⟩, ⟨by (with_reducible repeat (first | refine blk_drewN ?_ _ | refine blk_drew ?_ | refine blk_alloc ?_ _)); exact BK101.out⟩, ⟨by repeat (first | (with_reducible first | exact HB.out | apply below_alloc | apply pw_below_drewN | apply below_drew1 | refine below_set ?_ GE101.out) | exact HB.out)⟩⟩
      ·replace c13 := Bool.eq_false_iff.mpr c13
       subst c13
       have H1 : (tidepoleref10_Check.j1 kj1 true a0_0 a0_1 a0_2 a0_3 a0_4 l0_5 l0_6 l0_7 l0_8) = some r := by rw [if_neg (show ¬ (false = true) by decide)] at H; exact H
       clear H
       have H := H1
       clear H1
       have H' := Aside0.mk H
       clear H
       have hcz16_0 : wc.cell? ⟨gb101, 0, none⟩ = some (.int .i64 a0_0) := (blk_cell BK101.out 0).trans rfl
       have hcz16_1 : wc.cell? ⟨gb101, 1, none⟩ = some (.int .u64 a0_1) := (blk_cell BK101.out 1).trans rfl
       have hcz16_2 : wc.cell? ⟨gb101, 2, none⟩ = some (.int .u64 a0_2) := (blk_cell BK101.out 2).trans rfl
       have hcz16_3 : wc.cell? ⟨gb101, 3, none⟩ = some (.int .u64 a0_3) := (blk_cell BK101.out 3).trans rfl
       have hcz16_4 : wc.cell? ⟨gb101, 4, none⟩ = some (.int .u64 a0_4) := (blk_cell BK101.out 4).trans rfl
       have hcz16_5 : wc.cell? ⟨gb101, 5, none⟩ = some (.slice A0_5 l0_5.length c0_5) := (blk_cell BK101.out 5).trans rfl
       have hcz16_6 : wc.cell? ⟨gb101, 6, none⟩ = some (.slice A0_6 l0_6.length c0_6) := (blk_cell BK101.out 6).trans rfl
       have hcz16_7 : wc.cell? ⟨gb101, 7, none⟩ = some (.slice A0_7 l0_7.length c0_7) := (blk_cell BK101.out 7).trans rfl
       have hcz16_8 : wc.cell? ⟨gb101, 8, none⟩ = some (.slice A0_8 l0_8.length c0_8) := (blk_cell BK101.out 8).trans rfl
       have hfz16_0 := blk_frozen BK101.out 0
       have hfz16_1 := blk_frozen BK101.out 1
       have hfz16_2 := blk_frozen BK101.out 2
       have hfz16_3 := blk_frozen BK101.out 3
       have hfz16_4 := blk_frozen BK101.out 4
       have hfz16_5 := blk_frozen BK101.out 5
       have hfz16_6 := blk_frozen BK101.out 6
       have hfz16_7 := blk_frozen BK101.out 7
       have hfz16_8 := blk_frozen BK101.out 8
       go_wp2_with (first | ((with_reducible refine gate_callee (f := 99) rfl ?_); refine goesL_ (some 17) rfl rfl Try.func99 (by kernel_rfl) rfl #[.int .u64 a0_2] rfl (by (try simp only [List.map_toArray, List.map_cons, List.map_nil]); first | done | rfl | (simp only [List.length_drop, List.length_take]; rfl)) ?_; (with_reducible refine (tidepoleref10_Right.calls a0_2 false _ A12.out).mono ?_); rintro e w' ⟨rfl, ⟨nd, rfl⟩⟩; refine ⟨_, rfl, ?_⟩; clear A12))
       go_meet
       case rel => exact ⟨_, (true), (by first | rfl | (simp; done) | (simp [*]; done)), H', ⟨by have := HJ1.out; first | omega | exact Nat.le_refl _⟩, ⟨by (with_reducible repeat (first | refine blk_drewN ?_ _ | refine blk_drew ?_ | refine blk_alloc ?_ _)); exact BK101.out⟩, ⟨by repeat (first | (with_reducible first | exact HB.out | apply below_alloc | apply pw_below_drewN | apply below_drew1 | refine below_set ?_ GE101.out) | exact HB.out)⟩⟩
     case rest =>
      clear HC10
      try clear c1
      try clear p2
      try clear c4
      try clear c4b0
      try clear c6
      try clear c7
      try clear c8
      try clear c8b0
      try clear c9
      try clear c13
      try clear hcz11_0
      try clear hcz11_1
      try clear hcz11_2
      try clear hcz11_3
      try clear hcz11_4
      try clear hcz11_5
      try clear hcz11_6
      try clear hcz11_7
      try clear hcz11_8
      try clear hcz15_0
      try clear hcz15_1
      try clear hcz15_2
      try clear hcz15_3
      try clear hcz15_4
      try clear hcz15_5
      try clear hcz15_6
      try clear hcz15_7
      try clear hcz15_8
      try clear hcz16_0
      try clear hcz16_1
      try clear hcz16_2
      try clear hcz16_3
      try clear hcz16_4
      try clear hcz16_5
      try clear hcz16_6
      try clear hcz16_7
      try clear hcz16_8
      try clear hcz5_0
      try clear hcz5_1
      try clear hcz5_2
      try clear hcz5_3
      try clear hcz5_4
      try clear hcz5_5
      try clear hcz5_6
      try clear hcz5_7
      try clear hcz5_8
      try clear hcz6_0
      try clear hcz6_1
      try clear hcz6_2
      try clear hcz6_3
      try clear hcz6_4
      try clear hcz6_5
      try clear hcz6_6
      try clear hcz6_7
      try clear hcz6_8
      try clear hcz9_0
      try clear hcz9_1
      try clear hcz9_2
      try clear hcz9_3
      try clear hcz9_4
      try clear hcz9_5
      try clear hcz9_6
      try clear hcz9_7
      try clear hcz9_8
      try clear hfz11_0
      try clear hfz11_1
      try clear hfz11_2
      try clear hfz11_3
      try clear hfz11_4
      try clear hfz11_5
      try clear hfz11_6
      try clear hfz11_7
      try clear hfz11_8
      try clear hfz15_0
      try clear hfz15_1
      try clear hfz15_2
      try clear hfz15_3
      try clear hfz15_4
      try clear hfz15_5
      try clear hfz15_6
      try clear hfz15_7
      try clear hfz15_8
      try clear hfz16_0
      try clear hfz16_1
      try clear hfz16_2
      try clear hfz16_3
      try clear hfz16_4
      try clear hfz16_5
      try clear hfz16_6
      try clear hfz16_7
      try clear hfz16_8
      try clear hfz5_0
      try clear hfz5_1
      try clear hfz5_2
      try clear hfz5_3
      try clear hfz5_4
      try clear hfz5_5
      try clear hfz5_6
      try clear hfz5_7
      try clear hfz5_8
      try clear hfz6_0
      try clear hfz6_1
      try clear hfz6_2
      try clear hfz6_3
      try clear hfz6_4
      try clear hfz6_5
      try clear hfz6_6
      try clear hfz6_7
      try clear hfz6_8
      try clear hfz9_0
      try clear hfz9_1
      try clear hfz9_2
      try clear hfz9_3
      try clear hfz9_4
      try clear hfz9_5
      try clear hfz9_6
      try clear hfz9_7
      try clear hfz9_8
      try clear p2
      obtain ⟨kq, x24_9, rfl, HA, HJ9, BK101, HB⟩ := hcut
      cases kq with
      | zero => exact absurd HA.out (by simp [tidepoleref10_Check.j1])
      | succ kj9 =>
       have H := HA.out
       clear HA
       simp only [tidepoleref10_Check.j1] at H
       by_cases c17 : x24_9 = true
       ·subst c17
        have H1 : (some 22) = some r := by rw [if_pos rfl] at H; exact H
        clear H
        have H := H1
        clear H1
        obtain rfl := Option.some.inj H
        go_wp2
        go_ret
        exact ⟨by first | rfl | (simp [errW_none, errW_some] <;> rfl) | (simp [*, errW_none, errW_some] <;> rfl), by repeat (first | (with_reducible first | exact HB.out | apply below_alloc | apply pw_below_drewN | apply below_drew1 | refine below_set ?_ GE101.out) | exact HB.out)⟩
       ·replace c17 := Bool.eq_false_iff.mpr c17
        subst c17
        have H1 : ((tidepoleref10_Side.f kj9 l0_5 l0_7).bind fun t104 => (if t104 = 0 then ((tidepoleref10_Side.f kj9 l0_6 l0_8).bind fun t105 => (some t105)) else (some t104))) = some r := by rw [if_neg (show ¬ (false = true) by decide)] at H; exact H
        clear H
        have H := H1
        clear H1
        replace H := Option.bind_eq_some_iff.mp H
        obtain ⟨t104, A180, H⟩ := H
        replace H : (if t104 = 0 then ((tidepoleref10_Side.f kj9 l0_6 l0_8).bind fun t105 => (some t105)) else (some t104)) = some r := H
        have A18 := Aside0.mk A180
        clear A180
        by_cases c19 : t104 = 0
        ·rw [if_pos c19] at H
         have c19b0 : (t104 == 0) = true := beq_iff_eq.mpr c19
         have c19b1 : (t104 != 0) = false := bne_eq_false_iff_eq.mpr c19
         clear c19
         replace H := Option.bind_eq_some_iff.mp H
         obtain ⟨t105, A200, H⟩ := H
         replace H : (some t105) = some r := H
         have A20 := Aside0.mk A200
         clear A200
         obtain rfl := Option.some.inj H
         have hcz21_0 : wc.cell? ⟨gb101, 0, none⟩ = some (.int .i64 a0_0) := (blk_cell BK101.out 0).trans rfl
         have hcz21_1 : wc.cell? ⟨gb101, 1, none⟩ = some (.int .u64 a0_1) := (blk_cell BK101.out 1).trans rfl
         have hcz21_2 : wc.cell? ⟨gb101, 2, none⟩ = some (.int .u64 a0_2) := (blk_cell BK101.out 2).trans rfl
         have hcz21_3 : wc.cell? ⟨gb101, 3, none⟩ = some (.int .u64 a0_3) := (blk_cell BK101.out 3).trans rfl
         have hcz21_4 : wc.cell? ⟨gb101, 4, none⟩ = some (.int .u64 a0_4) := (blk_cell BK101.out 4).trans rfl
         have hcz21_5 : wc.cell? ⟨gb101, 5, none⟩ = some (.slice A0_5 l0_5.length c0_5) := (blk_cell BK101.out 5).trans rfl
         have hcz21_6 : wc.cell? ⟨gb101, 6, none⟩ = some (.slice A0_6 l0_6.length c0_6) := (blk_cell BK101.out 6).trans rfl
         have hcz21_7 : wc.cell? ⟨gb101, 7, none⟩ = some (.slice A0_7 l0_7.length c0_7) := (blk_cell BK101.out 7).trans rfl
         have hcz21_8 : wc.cell? ⟨gb101, 8, none⟩ = some (.slice A0_8 l0_8.length c0_8) := (blk_cell BK101.out 8).trans rfl
         have hfz21_0 := blk_frozen BK101.out 0
         have hfz21_1 := blk_frozen BK101.out 1
         have hfz21_2 := blk_frozen BK101.out 2
         have hfz21_3 := blk_frozen BK101.out 3
         have hfz21_4 := blk_frozen BK101.out 4
         have hfz21_5 := blk_frozen BK101.out 5
         have hfz21_6 := blk_frozen BK101.out 6
         have hfz21_7 := blk_frozen BK101.out 7
         have hfz21_8 := blk_frozen BK101.out 8
         go_wp2_with (first | ((with_reducible refine gate_callee (f := 144) rfl ?_); refine goesL_ (some 29) rfl rfl Try.func144 (by kernel_rfl) rfl #[.slice A0_5 l0_5.length c0_5, .slice A0_7 l0_7.length c0_7] rfl (by (try simp only [List.map_toArray, List.map_cons, List.map_nil]); first | done | rfl | (simp only [List.length_drop, List.length_take]; rfl)) ?_; (with_reducible refine (tidepoleref10_Side.calls kj9 _ _ l0_5 _ _ l0_7 t104 _ ?side1 ?side2 ?side3 ?side4 A18.out).mono ?_); (case side1 => repeat (first | exact (Kd.C_below HR0_5.out HB.out) | (with_reducible refine Kd.C_alloc ?_ _) | (with_reducible refine Kd.C_drewN ?_ _) | (with_reducible refine Kd.C_drew ?_))); (case side2 => exact HC0_5.out); (case side3 => repeat (first | exact (Kd.C_below HR0_7.out HB.out) | (with_reducible refine Kd.C_alloc ?_ _) | (with_reducible refine Kd.C_drewN ?_ _) | (with_reducible refine Kd.C_drew ?_))); (case side4 => exact HC0_7.out); rintro e w22 ⟨rfl, hb⟩; refine ⟨_, rfl, ?_⟩; have n0_ := Aside0.mk (blk_below (g := gb101) (o := .cells #[.int .i64 a0_0, .int .u64 a0_1, .int .u64 a0_2, .int .u64 a0_3, .int .u64 a0_4, .slice A0_5 l0_5.length c0_5, .slice A0_6 l0_6.length c0_6, .slice A0_7 l0_7.length c0_7, .slice A0_8 l0_8.length c0_8] 84 (0, 0)) (by (with_reducible repeat (first | refine blk_drewN ?_ _ | refine blk_drew ?_ | refine blk_alloc ?_ _)); exact BK101.out) hb); have n1_ := Aside0.mk (below_step (by repeat (first | (with_reducible first | exact HB.out | apply below_alloc | apply pw_below_drewN | apply below_drew1 | refine below_set ?_ GE101.out) | exact HB.out)) hb); clear BK101; clear HB; have BK101 := n0_; have HB := n1_; clear n0_ n1_; (try clear hb); (try clear hb2); (try clear hk); (try clear hi); clear A18; have hcz23_0 : w22.cell? ⟨gb101, 0, none⟩ = some (.int .i64 a0_0) := (blk_cell BK101.out 0).trans rfl; have hcz23_1 : w22.cell? ⟨gb101, 1, none⟩ = some (.int .u64 a0_1) := (blk_cell BK101.out 1).trans rfl; have hcz23_2 : w22.cell? ⟨gb101, 2, none⟩ = some (.int .u64 a0_2) := (blk_cell BK101.out 2).trans rfl; have hcz23_3 : w22.cell? ⟨gb101, 3, none⟩ = some (.int .u64 a0_3) := (blk_cell BK101.out 3).trans rfl; have hcz23_4 : w22.cell? ⟨gb101, 4, none⟩ = some (.int .u64 a0_4) := (blk_cell BK101.out 4).trans rfl; have hcz23_5 : w22.cell? ⟨gb101, 5, none⟩ = some (.slice A0_5 l0_5.length c0_5) := (blk_cell BK101.out 5).trans rfl; have hcz23_6 : w22.cell? ⟨gb101, 6, none⟩ = some (.slice A0_6 l0_6.length c0_6) := (blk_cell BK101.out 6).trans rfl; have hcz23_7 : w22.cell? ⟨gb101, 7, none⟩ = some (.slice A0_7 l0_7.length c0_7) := (blk_cell BK101.out 7).trans rfl; have hcz23_8 : w22.cell? ⟨gb101, 8, none⟩ = some (.slice A0_8 l0_8.length c0_8) := (blk_cell BK101.out 8).trans rfl; have hfz23_0 := blk_frozen BK101.out 0; have hfz23_1 := blk_frozen BK101.out 1; have hfz23_2 := blk_frozen BK101.out 2; have hfz23_3 := blk_frozen BK101.out 3; have hfz23_4 := blk_frozen BK101.out 4; have hfz23_5 := blk_frozen BK101.out 5; have hfz23_6 := blk_frozen BK101.out 6; have hfz23_7 := blk_frozen BK101.out 7; have hfz23_8 := blk_frozen BK101.out 8) | ((with_reducible refine gate_callee (f := 144) rfl ?_); refine goesL_ (some 37) rfl rfl Try.func144 (by kernel_rfl) rfl #[.slice A0_6 l0_6.length c0_6, .slice A0_8 l0_8.length c0_8] rfl (by (try simp only [List.map_toArray, List.map_cons, List.map_nil]); first | done | rfl | (simp only [List.length_drop, List.length_take]; rfl)) ?_; (with_reducible refine (tidepoleref10_Side.calls kj9 _ _ l0_6 _ _ l0_8 t105 _ ?side1 ?side2 ?side3 ?side4 A20.out).mono ?_); (case side1 => repeat (first | exact (Kd.C_below HR0_6.out HB.out) | (with_reducible refine Kd.C_alloc ?_ _) | (with_reducible refine Kd.C_drewN ?_ _) | (with_reducible refine Kd.C_drew ?_))); (case side2 => exact HC0_6.out); (case side3 => repeat (first | exact (Kd.C_below HR0_8.out HB.out) | (with_reducible refine Kd.C_alloc ?_ _) | (with_reducible refine Kd.C_drewN ?_ _) | (with_reducible refine Kd.C_drew ?_))); (case side4 => exact HC0_8.out); rintro e w24 ⟨rfl, hb⟩; refine ⟨_, rfl, ?_⟩; have n0_ := Aside0.mk (blk_below (g := gb101) (o := .cells #[.int .i64 a0_0, .int .u64 a0_1, .int .u64 a0_2, .int .u64 a0_3, .int .u64 a0_4, .slice A0_5 l0_5.length c0_5, .slice A0_6 l0_6.length c0_6, .slice A0_7 l0_7.length c0_7, .slice A0_8 l0_8.length c0_8] 84 (0, 0)) (by (with_reducible repeat (first | refine blk_drewN ?_ _ | refine blk_drew ?_ | refine blk_alloc ?_ _)); exact BK101.out) hb); have n1_ := Aside0.mk (below_step (by repeat (first | (with_reducible first | exact HB.out | apply below_alloc | apply pw_below_drewN | apply below_drew1 | refine below_set ?_ GE101.out) | exact HB.out)) hb); clear BK101; clear HB; have BK101 := n0_; have HB := n1_; clear n0_ n1_; (try clear hb); (try clear hb2); (try clear hk); (try clear hi); clear A20))
         go_ret
         exact ⟨by first | rfl | (simp [errW_none, errW_some] <;> rfl) | (simp [*, errW_none, errW_some] <;> rfl), by repeat (first | (with_reducible first | exact HB.out | apply below_alloc | apply pw_below_drewN | apply below_drew1 | refine below_set ?_ GE101.out) | exact HB.out)⟩
        ·rw [if_neg c19] at H
         have c19b0 : (t104 == 0) = false := beq_eq_false_iff_ne.mpr c19
         have c19b1 : (t104 != 0) = true := bne_iff_ne.mpr c19
         obtain rfl := Option.some.inj H
         have hcz25_0 : wc.cell? ⟨gb101, 0, none⟩ = some (.int .i64 a0_0) := (blk_cell BK101.out 0).trans rfl
         have hcz25_1 : wc.cell? ⟨gb101, 1, none⟩ = some (.int .u64 a0_1) := (blk_cell BK101.out 1).trans rfl
         have hcz25_2 : wc.cell? ⟨gb101, 2, none⟩ = some (.int .u64 a0_2) := (blk_cell BK101.out 2).trans rfl
         have hcz25_3 : wc.cell? ⟨gb101, 3, none⟩ = some (.int .u64 a0_3) := (blk_cell BK101.out 3).trans rfl
         have hcz25_4 : wc.cell? ⟨gb101, 4, none⟩ = some (.int .u64 a0_4) := (blk_cell BK101.out 4).trans rfl
         have hcz25_5 : wc.cell? ⟨gb101, 5, none⟩ = some (.slice A0_5 l0_5.length c0_5) := (blk_cell BK101.out 5).trans rfl
         have hcz25_6 : wc.cell? ⟨gb101, 6, none⟩ = some (.slice A0_6 l0_6.length c0_6) := (blk_cell BK101.out 6).trans rfl
         have hcz25_7 : wc.cell? ⟨gb101, 7, none⟩ = some (.slice A0_7 l0_7.length c0_7) := (blk_cell BK101.out 7).trans rfl
         have hcz25_8 : wc.cell? ⟨gb101, 8, none⟩ = some (.slice A0_8 l0_8.length c0_8) := (blk_cell BK101.out 8).trans rfl
         have hfz25_0 := blk_frozen BK101.out 0
         have hfz25_1 := blk_frozen BK101.out 1
         have hfz25_2 := blk_frozen BK101.out 2
         have hfz25_3 := blk_frozen BK101.out 3
         have hfz25_4 := blk_frozen BK101.out 4
         have hfz25_5 := blk_frozen BK101.out 5
         have hfz25_6 := blk_frozen BK101.out 6
         have hfz25_7 := blk_frozen BK101.out 7
         have hfz25_8 := blk_frozen BK101.out 8
         go_wp2_with (first | ((with_reducible refine gate_callee (f := 144) rfl ?_); refine goesL_ (some 29) rfl rfl Try.func144 (by kernel_rfl) rfl #[.slice A0_5 l0_5.length c0_5, .slice A0_7 l0_7.length c0_7] rfl (by (try simp only [List.map_toArray, List.map_cons, List.map_nil]); first | done | rfl | (simp only [List.length_drop, List.length_take]; rfl)) ?_; (with_reducible refine (tidepoleref10_Side.calls kj9 _ _ l0_5 _ _ l0_7 t104 _ ?side1 ?side2 ?side3 ?side4 A18.out).mono ?_); (case side1 => repeat (first | exact (Kd.C_below HR0_5.out HB.out) | (with_reducible refine Kd.C_alloc ?_ _) | (with_reducible refine Kd.C_drewN ?_ _) | (with_reducible refine Kd.C_drew ?_))); (case side2 => exact HC0_5.out); (case side3 => repeat (first | exact (Kd.C_below HR0_7.out HB.out) | (with_reducible refine Kd.C_alloc ?_ _) | (with_reducible refine Kd.C_drewN ?_ _) | (with_reducible refine Kd.C_drew ?_))); (case side4 => exact HC0_7.out); rintro e w26 ⟨rfl, hb⟩; refine ⟨_, rfl, ?_⟩; have n0_ := Aside0.mk (blk_below (g := gb101) (o := .cells #[.int .i64 a0_0, .int .u64 a0_1, .int .u64 a0_2, .int .u64 a0_3, .int .u64 a0_4, .slice A0_5 l0_5.length c0_5, .slice A0_6 l0_6.length c0_6, .slice A0_7 l0_7.length c0_7, .slice A0_8 l0_8.length c0_8] 84 (0, 0)) (by (with_reducible repeat (first | refine blk_drewN ?_ _ | refine blk_drew ?_ | refine blk_alloc ?_ _)); exact BK101.out) hb); have n1_ := Aside0.mk (below_step (by repeat (first | (with_reducible first | exact HB.out | apply below_alloc | apply pw_below_drewN | apply below_drew1 | refine below_set ?_ GE101.out) | exact HB.out)) hb); clear BK101; clear HB; have BK101 := n0_; have HB := n1_; clear n0_ n1_; (try clear hb); (try clear hb2); (try clear hk); (try clear hi); clear A18))
         go_ret
         exact ⟨by first | rfl | (simp [errW_none, errW_some] <;> rfl) | (simp [*, errW_none, errW_some] <;> rfl), by repeat (first | (with_reducible first | exact HB.out | apply below_alloc | apply pw_below_drewN | apply below_drew1 | refine below_set ?_ GE101.out) | exact HB.out)⟩
def tidepoleref10_At.l0 : Nat → List Int → List Int → Int → Int → Option (Int)
 | 0, _, _, _, _ => none
 | k + 1, x0, x1, x2, x7 => if x7 < (x0.length : Int) then (if 0 ≤ x7 then (if (rd x0 x7) = x2 then (if x7 < (x1.length : Int) then (some (rd x1 x7)) else (none)) else (tidepoleref10_At.l0 k x0 x1 x2 (wrap64 (x7 + 1)))) else (none)) else (some 0)
def tidepoleref10_At.f (k : Nat) (l0 : List Int) (l1 : List Int) (a2 : Int) : Option (Int) := tidepoleref10_At.l0 k l0 l1 a2 0
set_option maxHeartbeats 8000000 in
set_option maxRecDepth 100000 in
theorem tidepoleref10_At.calls (k : Nat) (A0 : Option Addr) (c0 : Nat) (l0 : List Int) (A1 : Option Addr) (c1 : Nat) (l1 : List Int) (a2 : Int) (r : Int) (w : World) (hr0 : Kd.C (Kd.int .i64) w A0 l0.length l0) (hc0 : l0.length ≤ c0) (hr1 : Kd.C (Kd.int .u64) w A1 l1.length l1) (hc1 : l1.length ≤ c1) (h : tidepoleref10_At.f k l0 l1 a2 = some r) :
  Calls Try.prog 178 #[.slice A0 l0.length c0, .slice A1 l1.length c1, .int .i64 a2] w fun e w' => e = .returned (.int .u64 r) ∧ Drawn0 w w' := by
 have HR0 := Aside0.mk hr0
 have HC0 := Aside0.mk hc0
 clear hr0 hc0
 have HR1 := Aside0.mk hr1
 have HC1 := Aside0.mk hc1
 clear hr1 hc1
 have H : (tidepoleref10_At.l0 k l0 l1 a2 0) = some r := h
 clear h
 have H' := Aside0.mk H
 clear H
 go_enter Try.func178, Try.ntmps178
 go_wp2
 go_loopg [7] k (fun kq v7 w' => ∃ (x7_1 : Int), v7 = .int .i64 x7_1 ∧ Aside0 (tidepoleref10_At.l0 kq l0 l1 a2 x7_1 = some r) ∧ Aside0 (kq ≤ k) ∧ Drawn0 w w')
 case atStart => exact ⟨(0), (by first | rfl | (simp; done) | (simp [*]; done)), H', ⟨Nat.le_refl _⟩, by repeat (first | exact Drawn0.refl _ | apply Drawn0.step)⟩
 case round =>
  clear H'
  try clear c1
  try clear p2
  obtain ⟨x7_1, rfl, HA, HK1, ⟨m1, rfl⟩⟩ := hrel
  cases gk with
  | zero => exact absurd HA.out (by simp [tidepoleref10_At.l0])
  | succ k1 =>
   have H := HA.out
   clear HA
   simp only [tidepoleref10_At.l0] at H
   by_cases c4 : x7_1 < (l0.length : Int)
   ·rw [if_pos c4] at H
    have c4b0 : decide (x7_1 < (l0.length : Int)) = true := decide_eq_true c4
    clear c4
    by_cases c5 : 0 ≤ x7_1
    ·rw [if_pos c5] at H
     have c5b0 : decide (0 ≤ x7_1) = true := decide_eq_true c5
     clear c5
     by_cases c6 : (rd l0 x7_1) = a2
     ·rw [if_pos c6] at H
      have c6b0 : ((rd l0 x7_1) == a2) = true := beq_iff_eq.mpr c6
      have c6b1 : ((rd l0 x7_1) != a2) = false := bne_eq_false_iff_eq.mpr c6
      clear c6
      by_cases c7 : x7_1 < (l1.length : Int)
      ·rw [if_pos c7] at H
       have c7b0 : decide (x7_1 < (l1.length : Int)) = true := decide_eq_true c7
       clear c7
       obtain rfl := Option.some.inj H
       have p101 : 0 ≤ (x7_1 : Int) := of_decide_eq_true (by first | (with_reducible assumption) | assumption)
       have q101 : x7_1 < (l0.length : Int) := of_decide_eq_true (by first | (with_reducible assumption) | assumption)
       obtain ⟨ad101, e101, hx101_0⟩ := Kd.at_int HR0.out x7_1 p101 q101
       cases e101
       replace p101 := eq_true p101
       replace q101 := eq_true q101
       have p102 : 0 ≤ (x7_1 : Int) := of_decide_eq_true (by first | (with_reducible assumption) | assumption)
       have q102 : x7_1 < (l1.length : Int) := of_decide_eq_true (by first | (with_reducible assumption) | assumption)
       obtain ⟨ad102, e102, hx102_0⟩ := Kd.at_int HR1.out x7_1 p102 q102
       cases e102
       replace p102 := eq_true p102
       replace q102 := eq_true q102
       go_wp2
       go_ret
       exact ⟨by first | rfl | (simp; done) | (simp [*]; done), by repeat (first | exact Drawn0.refl _ | apply Drawn0.step)⟩
      ·rw [if_neg c7] at H
       exact absurd H (by simp)
     ·rw [if_neg c6] at H
      have c6b0 : ((rd l0 x7_1) == a2) = false := beq_eq_false_iff_ne.mpr c6
      have c6b1 : ((rd l0 x7_1) != a2) = true := bne_iff_ne.mpr c6
      have H' := Aside0.mk H
      clear H
      have p101 : 0 ≤ (x7_1 : Int) := of_decide_eq_true (by first | (with_reducible assumption) | assumption)
      have q101 : x7_1 < (l0.length : Int) := of_decide_eq_true (by first | (with_reducible assumption) | assumption)
      obtain ⟨ad101, e101, hx101_0⟩ := Kd.at_int HR0.out x7_1 p101 q101
      cases e101
      replace p101 := eq_true p101
      replace q101 := eq_true q101
      go_wp2
      go_roundg k1
      case measure => have := HK1.out; omega
      case rel => exact ⟨(wrap64 (x7_1 + 1)), (by first | rfl | (simp; done) | (simp [*]; done)), H', ⟨by have := HK1.out; omega⟩, by repeat (first | exact Drawn0.refl _ | apply Drawn0.step)⟩
    ·rw [if_neg c5] at H
     exact absurd H (by simp)
   ·rw [if_neg c4] at H
    have c4b0 : decide (x7_1 < (l0.length : Int)) = false := decide_eq_false c4
    clear c4
    obtain rfl := Option.some.inj H
    go_wp2
    go_ret
    exact ⟨by first | rfl | (simp; done) | (simp [*]; done), by repeat (first | exact Drawn0.refl _ | apply Drawn0.step)⟩
end Go.Proofs.Ytacgeafjilipdaa.P
