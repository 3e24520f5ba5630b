/- ResetInts: the part that this text bears of the proof that the statement answers true for every input. No condition. -/
import Derived.Test.YtacgeafjilipdaaProg
import Derived.Below
import Derived.Deep.Draws
import Derived.Deep.AppendLies
import Derived.Maps.AppendAt
import Derived.OwnWalk
import Derived.Laws.BytesArg
import Derived.Laws.MakeOwn
import Derived.Laws.OwnMore
import Derived.Deep.OwnRows
import Derived.Tactics
import Derived.Lib.ConvBytes
import Derived.Laws.Slices
import Derived.WalkKit
import Derived.KernelRfl
import Derived.RowKit3
import Derived.Deep.LoopGhost
import Derived.Deep.QuietTactic
import Derived.BigQuiet
import Derived.WideLaws
import Derived.Deep.DeepCutAuto
import Derived.Deep.CutBlock
import Derived.Deep.RegionHeld3
import Derived.Laws.Rows
import Derived.Lib.AppendStr
import Derived.ArgAppend
import Derived.Laws.IdiomCopy
import Derived.OrdersHeld
import Derived.Laws.BitsLemmas
import Derived.RowKit
import Derived.Deep.Slices
import Derived.ChangeArms
import Derived.Shelf.Abstract
import Derived.WalkSpells
import Derived.RangeFuncNested
import Derived.RangeFuncBound
import Derived.RangeFuncCalls
import Derived.RangeFuncLeaves
import Derived.RangeFuncBox
import Derived.OwnWalkIn
import Derived.TacticsInMore
import Derived.LoopNIn
import Derived.LoopIn
import Derived.Laws.Externs
import Derived.Shelf.Spec.BitsCarry
import Derived.RegionIn
import Derived.Sort.QuietTacIn
import Derived.Deep.RegionWith
import Derived.Laws.BitsAllLaws
import Derived.ProofKit
import Derived.JoinedOf
import Derived.OpenShut
import Derived.ShutString
import Derived.ChangeOld
import Derived.SizedLaws
import Derived.Test.YtacgeafjilipdaaQResetIntsWWords
import Derived.Test.YtacgeafjilipdaaQResetIntsWLast
import Derived.Test.YtacgeafjilipdaaQResetIntsWTab
import Derived.Test.YtacgeafjilipdaaQResetIntsWFour
import Derived.Test.YtacgeafjilipdaaQResetIntsWQPut
import Derived.Test.YtacgeafjilipdaaQResetIntsWApart
import Derived.Test.YtacgeafjilipdaaQResetIntsWArr
import Derived.Test.YtacgeafjilipdaaQResetIntsWZeros
import Derived.Test.YtacgeafjilipdaaQResetIntsWFoot
import Derived.Test.YtacgeafjilipdaaQResetIntsWKept
import Derived.Test.YtacgeafjilipdaaQResetIntsWShare
import Derived.Test.YtacgeafjilipdaaQResetIntsWN
import Derived.Test.YtacgeafjilipdaaQResetIntsWFootNe
import Derived.Test.YtacgeafjilipdaaQResetIntsWAt
import Derived.Test.YtacgeafjilipdaaQResetIntsWEqStruct
import Derived.Test.YtacgeafjilipdaaQResetIntsWRepsOne
import Derived.Test.YtacgeafjilipdaaQResetIntsWInv
import Derived.Test.YtacgeafjilipdaaQResetIntsWInvWords
import Derived.Test.YtacgeafjilipdaaQResetIntsWGuard
import Derived.Test.YtacgeafjilipdaaQResetIntsWNEv
import Derived.Test.YtacgeafjilipdaaQResetIntsWMore
import Derived.Test.YtacgeafjilipdaaRows
import Derived.Test.YtacgeafjilipdaaQResetInts0
import Derived.Test.YtacgeafjilipdaaQResetInts1
import Derived.Test.YtacgeafjilipdaaQResetInts2
import Derived.Test.YtacgeafjilipdaaQResetInts3
namespace Go.Proofs.Ytacgeafjilipdaa.P
open Go.RowKit Go.Shelf Go.Proofs.YtacgeafjilipdaaW.PrintWords Go.Proofs.YtacgeafjilipdaaW.PrintLast Go.Proofs.YtacgeafjilipdaaW.PrintMore
set_option linter.unusedVariables false
set_option linter.unusedSimpArgs false
theorem sameR_right {a b : Hi} (ca : checkR a = 0) (cb : checkR b = 0) : sameR a b = (decide ((intsV a b).1 = 0) && decide ((intsV b a).1 = 0)) := by
  unfold sameR intsR
  rw [if_neg (by simp [ca]), if_neg (by simp [cb]), if_neg (by simp [cb]), if_neg (by simp [ca])]
  simp only
  by_cases h1 : (intsV a b).1 = 0
  · by_cases h2 : (intsV b a).1 = 0
    · rw [intsV_fst h1, intsV_fst h2]; decide
    · rw [decide_eq_false h2, decide_eq_false (show ¬ intsV a b = intsV b a from fun e => h2 (by rw [← e]; exact h1))]; simp
  · rw [decide_eq_false h1]; simp
theorem sameR_wrong {a b : Hi} (h : checkR a ≠ 0 ∨ checkR b ≠ 0) : sameR a b = false := by
  have : (intsR a b).2 ≠ 0 := by
    unfold intsR
    by_cases ca : checkR a = 0
    · rw [if_neg (by simp [ca]), if_pos (h.resolve_left (fun k => k ca))]; exact h.resolve_left (fun k => k ca)
    · rw [if_pos ca]; exact ca
  unfold sameR
  rw [decide_eq_false this]; simp
set_option maxHeartbeats 32000000 in
set_option maxRecDepth 100000 in
theorem resetInts_c (a b : Hi) (hwa : wfI a) (hwb : wfI b) (w : World) (u v : Value) (hua : HI w u a) (hub : HI w v b) : Calls Try.prog 8 #[u, v] w fun e w' => e = .returned (.bool true) ∧ Below w.heap.size w w' := by
  have hud := Try.underlying64
  have huv := Try.underlying67
  obtain ⟨b1, hb1, cs⟩ := small11_c a hwa.2.2.2.2.2.1 hwa.2.2.2.2.2.2.1
  obtain ⟨b2, hb2, ct⟩ := small11_c b hwb.2.2.2.2.2.1 hwb.2.2.2.2.2.2.1
  have CS := Aside0.mk cs
  have CT := Aside0.mk ct
  clear cs ct
  cases b1 with
  | false =>
    clear hb1 hb2
    obtain ⟨A5a, c5a, A6a, c6a, A7a, c7a, A8a, c8a, e, -⟩ := hua.open_
    subst e
    obtain ⟨A5b, c5b, A6b, c6b, A7b, c7b, A8b, c8b, e, -⟩ := hub.open_
    subst e
    have B := Aside0.mk (below_alloc (below_alloc (Below.refl w.heap.size w) (.cells #[.int .i64 a.f0, .int .u64 a.f1, .int .u64 a.f2, .int .u64 a.f3, .int .u64 a.f4, .slice A5a a.f5.length c5a, .slice A6a a.f6.length c6a, .slice A7a a.f7.length c7a, .slice A8a a.f8.length c8a] 64)) (.cells #[.int .i64 b.f0, .int .u64 b.f1, .int .u64 b.f2, .int .u64 b.f3, .int .u64 b.f4, .slice A5b b.f5.length c5b, .slice A6b b.f6.length c6b, .slice A7b b.f7.length c7b, .slice A8b b.f8.length c8b] 64))
    have X := Aside0.mk ((Blk.new w #[.int .i64 a.f0, .int .u64 a.f1, .int .u64 a.f2, .int .u64 a.f3, .int .u64 a.f4, .slice A5a a.f5.length c5a, .slice A6a a.f6.length c6a, .slice A7a a.f7.length c7a, .slice A8a a.f8.length c8a] 64).alloc (.cells #[.int .i64 b.f0, .int .u64 b.f1, .int .u64 b.f2, .int .u64 b.f3, .int .u64 b.f4, .slice A5b b.f5.length c5b, .slice A6b b.f6.length c6b, .slice A7b b.f7.length c7b, .slice A8b b.f8.length c8b] 64))
    have hx := fun i => X.out.cell i
    have Y := Aside0.mk (show Blk ((w.alloc (.cells #[.int .i64 a.f0, .int .u64 a.f1, .int .u64 a.f2, .int .u64 a.f3, .int .u64 a.f4, .slice A5a a.f5.length c5a, .slice A6a a.f6.length c6a, .slice A7a a.f7.length c7a, .slice A8a a.f8.length c8a] 64)).alloc (.cells #[.int .i64 b.f0, .int .u64 b.f1, .int .u64 b.f2, .int .u64 b.f3, .int .u64 b.f4, .slice A5b b.f5.length c5b, .slice A6b b.f6.length c6b, .slice A7b b.f7.length c7b, .slice A8b b.f8.length c8b] 64)) (w.heap.size + 1) #[.int .i64 b.f0, .int .u64 b.f1, .int .u64 b.f2, .int .u64 b.f3, .int .u64 b.f4, .slice A5b b.f5.length c5b, .slice A6b b.f6.length c6b, .slice A7b b.f7.length c7b, .slice A8b b.f8.length c8b] 64 by have := Blk.new (w.alloc (.cells #[.int .i64 a.f0, .int .u64 a.f1, .int .u64 a.f2, .int .u64 a.f3, .int .u64 a.f4, .slice A5a a.f5.length c5a, .slice A6a a.f6.length c6a, .slice A7a a.f7.length c7a, .slice A8a a.f8.length c8a] 64)) #[.int .i64 b.f0, .int .u64 b.f1, .int .u64 b.f2, .int .u64 b.f3, .int .u64 b.f4, .slice A5b b.f5.length c5b, .slice A6b b.f6.length c6b, .slice A7b b.f7.length c7b, .slice A8b b.f8.length c8b] 64; simpa using this)
    have hy := fun i => Y.out.cell i
    have HA := Aside0.mk (hua.below B.out)
    have HB := Aside0.mk (hub.below B.out)
    clear hua hub
    go_enter Try.func8, Try.ntmps8
    go_wp2_with (first | (go_at_call 54; (with_reducible refine (CS.out _ _ HA.out).mono ?_); rintro e W1 ⟨rfl, hb⟩; replace B := Aside0.mk (below_then B.out B.out.size hb); replace HA := Aside0.mk (HA.out.below hb); replace HB := Aside0.mk (HB.out.below hb); replace X := Aside0.mk (X.out.below hb); replace hx := fun i => X.out.cell i; replace Y := Aside0.mk (Y.out.below hb); replace hy := fun i => Y.out.cell i; clear  hb) | (go_at_call 55; (with_reducible refine (awake11_c _).mono ?_); rintro e W3 ⟨rfl, hb⟩; replace B := Aside0.mk (below_then B.out B.out.size hb); replace HA := Aside0.mk (HA.out.below hb); replace HB := Aside0.mk (HB.out.below hb); replace X := Aside0.mk (X.out.below hb); replace hx := fun i => X.out.cell i; replace Y := Aside0.mk (Y.out.below hb); replace hy := fun i => Y.out.cell i; clear  hb))
    go_ret
    exact ⟨rfl, B.out⟩
  | true =>
    cases b2 with
    | false =>
      clear hb1 hb2
      obtain ⟨A5a, c5a, A6a, c6a, A7a, c7a, A8a, c8a, e, -⟩ := hua.open_
      subst e
      obtain ⟨A5b, c5b, A6b, c6b, A7b, c7b, A8b, c8b, e, -⟩ := hub.open_
      subst e
      have B := Aside0.mk (below_alloc (below_alloc (Below.refl w.heap.size w) (.cells #[.int .i64 a.f0, .int .u64 a.f1, .int .u64 a.f2, .int .u64 a.f3, .int .u64 a.f4, .slice A5a a.f5.length c5a, .slice A6a a.f6.length c6a, .slice A7a a.f7.length c7a, .slice A8a a.f8.length c8a] 64)) (.cells #[.int .i64 b.f0, .int .u64 b.f1, .int .u64 b.f2, .int .u64 b.f3, .int .u64 b.f4, .slice A5b b.f5.length c5b, .slice A6b b.f6.length c6b, .slice A7b b.f7.length c7b, .slice A8b b.f8.length c8b] 64))
      have X := Aside0.mk ((Blk.new w #[.int .i64 a.f0, .int .u64 a.f1, .int .u64 a.f2, .int .u64 a.f3, .int .u64 a.f4, .slice A5a a.f5.length c5a, .slice A6a a.f6.length c6a, .slice A7a a.f7.length c7a, .slice A8a a.f8.length c8a] 64).alloc (.cells #[.int .i64 b.f0, .int .u64 b.f1, .int .u64 b.f2, .int .u64 b.f3, .int .u64 b.f4, .slice A5b b.f5.length c5b, .slice A6b b.f6.length c6b, .slice A7b b.f7.length c7b, .slice A8b b.f8.length c8b] 64))
      have hx := fun i => X.out.cell i
      have Y := Aside0.mk (show Blk ((w.alloc (.cells #[.int .i64 a.f0, .int .u64 a.f1, .int .u64 a.f2, .int .u64 a.f3, .int .u64 a.f4, .slice A5a a.f5.length c5a, .slice A6a a.f6.length c6a, .slice A7a a.f7.length c7a, .slice A8a a.f8.length c8a] 64)).alloc (.cells #[.int .i64 b.f0, .int .u64 b.f1, .int .u64 b.f2, .int .u64 b.f3, .int .u64 b.f4, .slice A5b b.f5.length c5b, .slice A6b b.f6.length c6b, .slice A7b b.f7.length c7b, .slice A8b b.f8.length c8b] 64)) (w.heap.size + 1) #[.int .i64 b.f0, .int .u64 b.f1, .int .u64 b.f2, .int .u64 b.f3, .int .u64 b.f4, .slice A5b b.f5.length c5b, .slice A6b b.f6.length c6b, .slice A7b b.f7.length c7b, .slice A8b b.f8.length c8b] 64 by have := Blk.new (w.alloc (.cells #[.int .i64 a.f0, .int .u64 a.f1, .int .u64 a.f2, .int .u64 a.f3, .int .u64 a.f4, .slice A5a a.f5.length c5a, .slice A6a a.f6.length c6a, .slice A7a a.f7.length c7a, .slice A8a a.f8.length c8a] 64)) #[.int .i64 b.f0, .int .u64 b.f1, .int .u64 b.f2, .int .u64 b.f3, .int .u64 b.f4, .slice A5b b.f5.length c5b, .slice A6b b.f6.length c6b, .slice A7b b.f7.length c7b, .slice A8b b.f8.length c8b] 64; simpa using this)
      have hy := fun i => Y.out.cell i
      have HA := Aside0.mk (hua.below B.out)
      have HB := Aside0.mk (hub.below B.out)
      clear hua hub
      go_enter Try.func8, Try.ntmps8
      go_wp2_with (first | (go_at_call 54; (with_reducible refine (CS.out _ _ HA.out).mono ?_); rintro e W1 ⟨rfl, hb⟩; replace B := Aside0.mk (below_then B.out B.out.size hb); replace HA := Aside0.mk (HA.out.below hb); replace HB := Aside0.mk (HB.out.below hb); replace X := Aside0.mk (X.out.below hb); replace hx := fun i => X.out.cell i; replace Y := Aside0.mk (Y.out.below hb); replace hy := fun i => Y.out.cell i; clear  hb) | (go_at_call 54; (with_reducible refine (CT.out _ _ HB.out).mono ?_); rintro e W2 ⟨rfl, hb⟩; replace B := Aside0.mk (below_then B.out B.out.size hb); replace HA := Aside0.mk (HA.out.below hb); replace HB := Aside0.mk (HB.out.below hb); replace X := Aside0.mk (X.out.below hb); replace hx := fun i => X.out.cell i; replace Y := Aside0.mk (Y.out.below hb); replace hy := fun i => Y.out.cell i; clear  hb) | (go_at_call 55; (with_reducible refine (awake11_c _).mono ?_); rintro e W3 ⟨rfl, hb⟩; replace B := Aside0.mk (below_then B.out B.out.size hb); replace HA := Aside0.mk (HA.out.below hb); replace HB := Aside0.mk (HB.out.below hb); replace X := Aside0.mk (X.out.below hb); replace hx := fun i => X.out.cell i; replace Y := Aside0.mk (Y.out.below hb); replace hy := fun i => Y.out.cell i; clear  hb))
      go_ret
      exact ⟨rfl, B.out⟩
    | true =>
      obtain ⟨n5, n6, n7, n8⟩ := hb1 rfl
      obtain ⟨m5, m6, m7, m8⟩ := hb2 rfl
      have hWa := wfH_of hwa n7 n8
      have hWb := wfH_of hwb m7 m8
      have ki := resetI_c a b hWa hWb
      have ks := same11_c a b hWa hWb
      have r1 := ints11_c a (by omega) (by omega)
      have r2 := ints11_c b (by omega) (by omega)
      have ca := refCheck_c a hWa
      have cb := refCheck_c b hWb
      have CA := Aside0.mk ca
      have CB := Aside0.mk cb
      have R1 := Aside0.mk r1
      have R2 := Aside0.mk r2
      clear r1 r2 n5 n6 n7 n8 m5 m6 m7 m8 hb1 hb2 hwa hwb ca cb
      by_cases ha : checkR a = 0
      rotate_left
      · rw [sameR_wrong (Or.inl ha)] at ks
        unfold intsR at ki
        rw [if_pos ha] at ki
        obtain ⟨v1, hv1⟩ : ∃ v1 : Int, v1 = 0 := ⟨0, rfl⟩
        obtain ⟨v2, hv2⟩ : ∃ v2 : Int, v2 = 0 := ⟨0, rfl⟩
        have KI := Aside0.mk ki
        have KS := Aside0.mk ks
        generalize checkR a = ea at *
        have d1 : (ea == 0) = false := beq_eq_false_iff_ne.2 ha
        have d2 : (ea != 0) = true := bne_iff_ne.2 ha
        have d3 : (ea == ea) = true := beq_self_eq_true _
        clear ha ki ks hWa hWb
        obtain ⟨A5a, c5a, A6a, c6a, A7a, c7a, A8a, c8a, e, -⟩ := hua.open_
        subst e
        obtain ⟨A5b, c5b, A6b, c6b, A7b, c7b, A8b, c8b, e, -⟩ := hub.open_
        subst e
        have B := Aside0.mk (below_alloc (below_alloc (Below.refl w.heap.size w) (.cells #[.int .i64 a.f0, .int .u64 a.f1, .int .u64 a.f2, .int .u64 a.f3, .int .u64 a.f4, .slice A5a a.f5.length c5a, .slice A6a a.f6.length c6a, .slice A7a a.f7.length c7a, .slice A8a a.f8.length c8a] 64)) (.cells #[.int .i64 b.f0, .int .u64 b.f1, .int .u64 b.f2, .int .u64 b.f3, .int .u64 b.f4, .slice A5b b.f5.length c5b, .slice A6b b.f6.length c6b, .slice A7b b.f7.length c7b, .slice A8b b.f8.length c8b] 64))
        have X := Aside0.mk ((Blk.new w #[.int .i64 a.f0, .int .u64 a.f1, .int .u64 a.f2, .int .u64 a.f3, .int .u64 a.f4, .slice A5a a.f5.length c5a, .slice A6a a.f6.length c6a, .slice A7a a.f7.length c7a, .slice A8a a.f8.length c8a] 64).alloc (.cells #[.int .i64 b.f0, .int .u64 b.f1, .int .u64 b.f2, .int .u64 b.f3, .int .u64 b.f4, .slice A5b b.f5.length c5b, .slice A6b b.f6.length c6b, .slice A7b b.f7.length c7b, .slice A8b b.f8.length c8b] 64))
        have hx := fun i => X.out.cell i
        have Y := Aside0.mk (show Blk ((w.alloc (.cells #[.int .i64 a.f0, .int .u64 a.f1, .int .u64 a.f2, .int .u64 a.f3, .int .u64 a.f4, .slice A5a a.f5.length c5a, .slice A6a a.f6.length c6a, .slice A7a a.f7.length c7a, .slice A8a a.f8.length c8a] 64)).alloc (.cells #[.int .i64 b.f0, .int .u64 b.f1, .int .u64 b.f2, .int .u64 b.f3, .int .u64 b.f4, .slice A5b b.f5.length c5b, .slice A6b b.f6.length c6b, .slice A7b b.f7.length c7b, .slice A8b b.f8.length c8b] 64)) (w.heap.size + 1) #[.int .i64 b.f0, .int .u64 b.f1, .int .u64 b.f2, .int .u64 b.f3, .int .u64 b.f4, .slice A5b b.f5.length c5b, .slice A6b b.f6.length c6b, .slice A7b b.f7.length c7b, .slice A8b b.f8.length c8b] 64 by have := Blk.new (w.alloc (.cells #[.int .i64 a.f0, .int .u64 a.f1, .int .u64 a.f2, .int .u64 a.f3, .int .u64 a.f4, .slice A5a a.f5.length c5a, .slice A6a a.f6.length c6a, .slice A7a a.f7.length c7a, .slice A8a a.f8.length c8a] 64)) #[.int .i64 b.f0, .int .u64 b.f1, .int .u64 b.f2, .int .u64 b.f3, .int .u64 b.f4, .slice A5b b.f5.length c5b, .slice A6b b.f6.length c6b, .slice A7b b.f7.length c7b, .slice A8b b.f8.length c8b] 64; simpa using this)
        have hy := fun i => Y.out.cell i
        have HA := Aside0.mk (hua.below B.out)
        have HB := Aside0.mk (hub.below B.out)
        clear hua hub
        go_enter Try.func8, Try.ntmps8
        go_wp2_with (first | (go_at_call 54; (with_reducible refine (CS.out _ _ HA.out).mono ?_); rintro e W1 ⟨rfl, hb⟩; replace B := Aside0.mk (below_then B.out B.out.size hb); replace HA := Aside0.mk (HA.out.below hb); replace HB := Aside0.mk (HB.out.below hb); replace X := Aside0.mk (X.out.below hb); replace hx := fun i => X.out.cell i; replace Y := Aside0.mk (Y.out.below hb); replace hy := fun i => Y.out.cell i; clear  hb) | (go_at_call 54; (with_reducible refine (CT.out _ _ HB.out).mono ?_); rintro e W2 ⟨rfl, hb⟩; replace B := Aside0.mk (below_then B.out B.out.size hb); replace HA := Aside0.mk (HA.out.below hb); replace HB := Aside0.mk (HB.out.below hb); replace X := Aside0.mk (X.out.below hb); replace hx := fun i => X.out.cell i; replace Y := Aside0.mk (Y.out.below hb); replace hy := fun i => Y.out.cell i; clear  hb) | (go_at_call 56; (with_reducible refine (KI.out _ _ _ HA.out HB.out).mono ?_); rintro e W3 ⟨rfl, hb⟩; replace B := Aside0.mk (below_then B.out B.out.size hb); replace HA := Aside0.mk (HA.out.below hb); replace HB := Aside0.mk (HB.out.below hb); replace X := Aside0.mk (X.out.below hb); replace hx := fun i => X.out.cell i; replace Y := Aside0.mk (Y.out.below hb); replace hy := fun i => Y.out.cell i; have hxa := fun i => (X.out.alloc (.cells #[.int .i64 0, .int .i64 0] 67)).cell i; have hya := fun i => (Y.out.alloc (.cells #[.int .i64 0, .int .i64 0] 67)).cell i; clear  hb))
        (try clear hxa hya)
        have hal := below_alloc (Below.refl W3.heap.size W3) (.cells #[.int .i64 0, .int .i64 0] 67)
        replace B := Aside0.mk (below_then B.out B.out.size hal)
        replace HA := Aside0.mk (HA.out.below hal)
        replace HB := Aside0.mk (HB.out.below hal)
        replace X := Aside0.mk (X.out.alloc (.cells #[.int .i64 0, .int .i64 0] 67)); replace hx := fun i => X.out.cell i
        replace Y := Aside0.mk (Y.out.alloc (.cells #[.int .i64 0, .int .i64 0] 67)); replace hy := fun i => Y.out.cell i
        have U := Aside0.mk (Blk.new W3 #[.int .i64 0, .int .i64 0] 67); have hu := fun i => U.out.cell i; clear hal
        go_wp2_with (first | (go_at_call 58; (with_reducible refine (R1.out _ _ HA.out).mono ?_); rintro e W4 ⟨ra, rfl, hr, hb⟩; replace B := Aside0.mk (below_then B.out B.out.size hb); replace HA := Aside0.mk (HA.out.below hb); replace HB := Aside0.mk (HB.out.below hb); replace X := Aside0.mk (X.out.below hb); replace hx := fun i => X.out.cell i; replace Y := Aside0.mk (Y.out.below hb); replace hy := fun i => Y.out.cell i; replace U := Aside0.mk (U.out.below hb); replace hu := fun i => U.out.cell i; (try (replace RB := Aside0.mk (RB.out.below hb))); have RA := Aside0.mk hr; clear hr hb) | (go_at_call 57; (with_reducible refine (CA.out _ _ RA.out).mono ?_); rintro e W5 ⟨rfl, hb⟩; replace B := Aside0.mk (below_then B.out B.out.size hb); replace HA := Aside0.mk (HA.out.below hb); replace HB := Aside0.mk (HB.out.below hb); replace X := Aside0.mk (X.out.below hb); replace hx := fun i => X.out.cell i; replace Y := Aside0.mk (Y.out.below hb); replace hy := fun i => Y.out.cell i; replace U := Aside0.mk (U.out.below hb); replace hu := fun i => U.out.cell i; clear  hb) | (go_at_call 58; (with_reducible refine (R2.out _ _ HB.out).mono ?_); rintro e W6 ⟨rb, rfl, hr, hb⟩; replace B := Aside0.mk (below_then B.out B.out.size hb); replace HA := Aside0.mk (HA.out.below hb); replace HB := Aside0.mk (HB.out.below hb); replace X := Aside0.mk (X.out.below hb); replace hx := fun i => X.out.cell i; replace Y := Aside0.mk (Y.out.below hb); replace hy := fun i => Y.out.cell i; replace U := Aside0.mk (U.out.below hb); replace hu := fun i => U.out.cell i; (try (replace RA := Aside0.mk (RA.out.below hb))); have RB := Aside0.mk hr; clear hr hb) | (go_at_call 57; (with_reducible refine (CB.out _ _ RB.out).mono ?_); rintro e W7 ⟨rfl, hb⟩; replace B := Aside0.mk (below_then B.out B.out.size hb); replace HA := Aside0.mk (HA.out.below hb); replace HB := Aside0.mk (HB.out.below hb); replace X := Aside0.mk (X.out.below hb); replace hx := fun i => X.out.cell i; replace Y := Aside0.mk (Y.out.below hb); replace hy := fun i => Y.out.cell i; replace U := Aside0.mk (U.out.below hb); replace hu := fun i => U.out.cell i; clear  hb) | (go_at_call 59; (with_reducible refine (KS.out _ _ _ HA.out HB.out).mono ?_); rintro e W8 ⟨rfl, hb⟩; replace B := Aside0.mk (below_then B.out B.out.size hb); replace HA := Aside0.mk (HA.out.below hb); replace HB := Aside0.mk (HB.out.below hb); replace X := Aside0.mk (X.out.below hb); replace hx := fun i => X.out.cell i; replace Y := Aside0.mk (Y.out.below hb); replace hy := fun i => Y.out.cell i; replace U := Aside0.mk (U.out.below hb); replace hu := fun i => U.out.cell i; clear  hb) | (go_at_call 55; (with_reducible refine (awake11_c _).mono ?_); rintro e W9 ⟨rfl, hb⟩; replace B := Aside0.mk (below_then B.out B.out.size hb); replace HA := Aside0.mk (HA.out.below hb); replace HB := Aside0.mk (HB.out.below hb); replace X := Aside0.mk (X.out.below hb); replace hx := fun i => X.out.cell i; replace Y := Aside0.mk (Y.out.below hb); replace hy := fun i => Y.out.cell i; replace U := Aside0.mk (U.out.below hb); replace hu := fun i => U.out.cell i; clear  hb))
        go_ret
        exact ⟨rfl, B.out⟩
      by_cases hb : checkR b = 0
      rotate_left
      · rw [sameR_wrong (Or.inr hb)] at ks
        unfold intsR at ki
        rw [if_neg (by simp [ha]), if_pos hb] at ki
        have KI := Aside0.mk ki
        have KS := Aside0.mk ks
        rw [ha] at CA
        generalize checkR b = eb at *
        have d1 : (eb == 0) = false := beq_eq_false_iff_ne.2 hb
        have d2 : (eb != 0) = true := bne_iff_ne.2 hb
        have d3 : (eb == eb) = true := beq_self_eq_true _
        clear ha hb ki ks hWa hWb
        obtain ⟨A5a, c5a, A6a, c6a, A7a, c7a, A8a, c8a, e, -⟩ := hua.open_
        subst e
        obtain ⟨A5b, c5b, A6b, c6b, A7b, c7b, A8b, c8b, e, -⟩ := hub.open_
        subst e
        have B := Aside0.mk (below_alloc (below_alloc (Below.refl w.heap.size w) (.cells #[.int .i64 a.f0, .int .u64 a.f1, .int .u64 a.f2, .int .u64 a.f3, .int .u64 a.f4, .slice A5a a.f5.length c5a, .slice A6a a.f6.length c6a, .slice A7a a.f7.length c7a, .slice A8a a.f8.length c8a] 64)) (.cells #[.int .i64 b.f0, .int .u64 b.f1, .int .u64 b.f2, .int .u64 b.f3, .int .u64 b.f4, .slice A5b b.f5.length c5b, .slice A6b b.f6.length c6b, .slice A7b b.f7.length c7b, .slice A8b b.f8.length c8b] 64))
        have X := Aside0.mk ((Blk.new w #[.int .i64 a.f0, .int .u64 a.f1, .int .u64 a.f2, .int .u64 a.f3, .int .u64 a.f4, .slice A5a a.f5.length c5a, .slice A6a a.f6.length c6a, .slice A7a a.f7.length c7a, .slice A8a a.f8.length c8a] 64).alloc (.cells #[.int .i64 b.f0, .int .u64 b.f1, .int .u64 b.f2, .int .u64 b.f3, .int .u64 b.f4, .slice A5b b.f5.length c5b, .slice A6b b.f6.length c6b, .slice A7b b.f7.length c7b, .slice A8b b.f8.length c8b] 64))
        have hx := fun i => X.out.cell i
        have Y := Aside0.mk (show Blk ((w.alloc (.cells #[.int .i64 a.f0, .int .u64 a.f1, .int .u64 a.f2, .int .u64 a.f3, .int .u64 a.f4, .slice A5a a.f5.length c5a, .slice A6a a.f6.length c6a, .slice A7a a.f7.length c7a, .slice A8a a.f8.length c8a] 64)).alloc (.cells #[.int .i64 b.f0, .int .u64 b.f1, .int .u64 b.f2, .int .u64 b.f3, .int .u64 b.f4, .slice A5b b.f5.length c5b, .slice A6b b.f6.length c6b, .slice A7b b.f7.length c7b, .slice A8b b.f8.length c8b] 64)) (w.heap.size + 1) #[.int .i64 b.f0, .int .u64 b.f1, .int .u64 b.f2, .int .u64 b.f3, .int .u64 b.f4, .slice A5b b.f5.length c5b, .slice A6b b.f6.length c6b, .slice A7b b.f7.length c7b, .slice A8b b.f8.length c8b] 64 by have := Blk.new (w.alloc (.cells #[.int .i64 a.f0, .int .u64 a.f1, .int .u64 a.f2, .int .u64 a.f3, .int .u64 a.f4, .slice A5a a.f5.length c5a, .slice A6a a.f6.length c6a, .slice A7a a.f7.length c7a, .slice A8a a.f8.length c8a] 64)) #[.int .i64 b.f0, .int .u64 b.f1, .int .u64 b.f2, .int .u64 b.f3, .int .u64 b.f4, .slice A5b b.f5.length c5b, .slice A6b b.f6.length c6b, .slice A7b b.f7.length c7b, .slice A8b b.f8.length c8b] 64; simpa using this)
        have hy := fun i => Y.out.cell i
        have HA := Aside0.mk (hua.below B.out)
        have HB := Aside0.mk (hub.below B.out)
        clear hua hub
        go_enter Try.func8, Try.ntmps8
        go_wp2_with (first | (go_at_call 54; (with_reducible refine (CS.out _ _ HA.out).mono ?_); rintro e W1 ⟨rfl, hb⟩; replace B := Aside0.mk (below_then B.out B.out.size hb); replace HA := Aside0.mk (HA.out.below hb); replace HB := Aside0.mk (HB.out.below hb); replace X := Aside0.mk (X.out.below hb); replace hx := fun i => X.out.cell i; replace Y := Aside0.mk (Y.out.below hb); replace hy := fun i => Y.out.cell i; clear  hb) | (go_at_call 54; (with_reducible refine (CT.out _ _ HB.out).mono ?_); rintro e W2 ⟨rfl, hb⟩; replace B := Aside0.mk (below_then B.out B.out.size hb); replace HA := Aside0.mk (HA.out.below hb); replace HB := Aside0.mk (HB.out.below hb); replace X := Aside0.mk (X.out.below hb); replace hx := fun i => X.out.cell i; replace Y := Aside0.mk (Y.out.below hb); replace hy := fun i => Y.out.cell i; clear  hb) | (go_at_call 56; (with_reducible refine (KI.out _ _ _ HA.out HB.out).mono ?_); rintro e W3 ⟨rfl, hb⟩; replace B := Aside0.mk (below_then B.out B.out.size hb); replace HA := Aside0.mk (HA.out.below hb); replace HB := Aside0.mk (HB.out.below hb); replace X := Aside0.mk (X.out.below hb); replace hx := fun i => X.out.cell i; replace Y := Aside0.mk (Y.out.below hb); replace hy := fun i => Y.out.cell i; have hxa := fun i => (X.out.alloc (.cells #[.int .i64 0, .int .i64 0] 67)).cell i; have hya := fun i => (Y.out.alloc (.cells #[.int .i64 0, .int .i64 0] 67)).cell i; clear  hb))
        (try clear hxa hya)
        have hal := below_alloc (Below.refl W3.heap.size W3) (.cells #[.int .i64 0, .int .i64 0] 67)
        replace B := Aside0.mk (below_then B.out B.out.size hal)
        replace HA := Aside0.mk (HA.out.below hal)
        replace HB := Aside0.mk (HB.out.below hal)
        replace X := Aside0.mk (X.out.alloc (.cells #[.int .i64 0, .int .i64 0] 67)); replace hx := fun i => X.out.cell i
        replace Y := Aside0.mk (Y.out.alloc (.cells #[.int .i64 0, .int .i64 0] 67)); replace hy := fun i => Y.out.cell i
        have U := Aside0.mk (Blk.new W3 #[.int .i64 0, .int .i64 0] 67); have hu := fun i => U.out.cell i; clear hal
        go_wp2_with (first | (go_at_call 58; (with_reducible refine (R1.out _ _ HA.out).mono ?_); rintro e W4 ⟨ra, rfl, hr, hb⟩; replace B := Aside0.mk (below_then B.out B.out.size hb); replace HA := Aside0.mk (HA.out.below hb); replace HB := Aside0.mk (HB.out.below hb); replace X := Aside0.mk (X.out.below hb); replace hx := fun i => X.out.cell i; replace Y := Aside0.mk (Y.out.below hb); replace hy := fun i => Y.out.cell i; replace U := Aside0.mk (U.out.below hb); replace hu := fun i => U.out.cell i; (try (replace RB := Aside0.mk (RB.out.below hb))); have RA := Aside0.mk hr; clear hr hb) | (go_at_call 57; (with_reducible refine (CA.out _ _ RA.out).mono ?_); rintro e W5 ⟨rfl, hb⟩; replace B := Aside0.mk (below_then B.out B.out.size hb); replace HA := Aside0.mk (HA.out.below hb); replace HB := Aside0.mk (HB.out.below hb); replace X := Aside0.mk (X.out.below hb); replace hx := fun i => X.out.cell i; replace Y := Aside0.mk (Y.out.below hb); replace hy := fun i => Y.out.cell i; replace U := Aside0.mk (U.out.below hb); replace hu := fun i => U.out.cell i; clear  hb) | (go_at_call 58; (with_reducible refine (R2.out _ _ HB.out).mono ?_); rintro e W6 ⟨rb, rfl, hr, hb⟩; replace B := Aside0.mk (below_then B.out B.out.size hb); replace HA := Aside0.mk (HA.out.below hb); replace HB := Aside0.mk (HB.out.below hb); replace X := Aside0.mk (X.out.below hb); replace hx := fun i => X.out.cell i; replace Y := Aside0.mk (Y.out.below hb); replace hy := fun i => Y.out.cell i; replace U := Aside0.mk (U.out.below hb); replace hu := fun i => U.out.cell i; (try (replace RA := Aside0.mk (RA.out.below hb))); have RB := Aside0.mk hr; clear hr hb) | (go_at_call 57; (with_reducible refine (CB.out _ _ RB.out).mono ?_); rintro e W7 ⟨rfl, hb⟩; replace B := Aside0.mk (below_then B.out B.out.size hb); replace HA := Aside0.mk (HA.out.below hb); replace HB := Aside0.mk (HB.out.below hb); replace X := Aside0.mk (X.out.below hb); replace hx := fun i => X.out.cell i; replace Y := Aside0.mk (Y.out.below hb); replace hy := fun i => Y.out.cell i; replace U := Aside0.mk (U.out.below hb); replace hu := fun i => U.out.cell i; clear  hb) | (go_at_call 59; (with_reducible refine (KS.out _ _ _ HA.out HB.out).mono ?_); rintro e W8 ⟨rfl, hb⟩; replace B := Aside0.mk (below_then B.out B.out.size hb); replace HA := Aside0.mk (HA.out.below hb); replace HB := Aside0.mk (HB.out.below hb); replace X := Aside0.mk (X.out.below hb); replace hx := fun i => X.out.cell i; replace Y := Aside0.mk (Y.out.below hb); replace hy := fun i => Y.out.cell i; replace U := Aside0.mk (U.out.below hb); replace hu := fun i => U.out.cell i; clear  hb) | (go_at_call 55; (with_reducible refine (awake11_c _).mono ?_); rintro e W9 ⟨rfl, hb⟩; replace B := Aside0.mk (below_then B.out B.out.size hb); replace HA := Aside0.mk (HA.out.below hb); replace HB := Aside0.mk (HB.out.below hb); replace X := Aside0.mk (X.out.below hb); replace hx := fun i => X.out.cell i; replace Y := Aside0.mk (Y.out.below hb); replace hy := fun i => Y.out.cell i; replace U := Aside0.mk (U.out.below hb); replace hu := fun i => U.out.cell i; clear  hb))
        go_ret
        exact ⟨rfl, B.out⟩
      rw [sameR_right ha hb] at ks
      unfold intsR at ki
      rw [if_neg (by simp [ha]), if_neg (by simp [hb])] at ki
      have ji := refInts_c a b hWa hWb ha hb
      have jj := refInts_c b a hWb hWa hb ha
      rw [ha] at CA
      rw [hb] at CB
      generalize intsV a b = va at *
      generalize intsV b a = vb at *
      obtain ⟨v1, v2⟩ := va
      obtain ⟨z1, z2⟩ := vb
      simp only at ki ks ji jj
      have KI := Aside0.mk ki
      have RI := Aside0.mk ji
      have RJ := Aside0.mk jj
      clear ki ji jj ha hb hWa hWb
      have d1 : (v1 == v1) = true := beq_self_eq_true _
      have d2 : (v2 == v2) = true := beq_self_eq_true _
      by_cases h1 : v1 = 0
      · have d3 : (v1 == 0) = true := beq_iff_eq.2 h1
        by_cases h2 : z1 = 0
        · have d4 : (z1 == 0) = true := beq_iff_eq.2 h2
          rw [decide_eq_true h1, decide_eq_true h2] at ks
          have KS := Aside0.mk ks
          clear ks h1 h2
          obtain ⟨A5a, c5a, A6a, c6a, A7a, c7a, A8a, c8a, e, -⟩ := hua.open_
          subst e
          obtain ⟨A5b, c5b, A6b, c6b, A7b, c7b, A8b, c8b, e, -⟩ := hub.open_
          subst e
          have B := Aside0.mk (below_alloc (below_alloc (Below.refl w.heap.size w) (.cells #[.int .i64 a.f0, .int .u64 a.f1, .int .u64 a.f2, .int .u64 a.f3, .int .u64 a.f4, .slice A5a a.f5.length c5a, .slice A6a a.f6.length c6a, .slice A7a a.f7.length c7a, .slice A8a a.f8.length c8a] 64)) (.cells #[.int .i64 b.f0, .int .u64 b.f1, .int .u64 b.f2, .int .u64 b.f3, .int .u64 b.f4, .slice A5b b.f5.length c5b, .slice A6b b.f6.length c6b, .slice A7b b.f7.length c7b, .slice A8b b.f8.length c8b] 64))
          have X := Aside0.mk ((Blk.new w #[.int .i64 a.f0, .int .u64 a.f1, .int .u64 a.f2, .int .u64 a.f3, .int .u64 a.f4, .slice A5a a.f5.length c5a, .slice A6a a.f6.length c6a, .slice A7a a.f7.length c7a, .slice A8a a.f8.length c8a] 64).alloc (.cells #[.int .i64 b.f0, .int .u64 b.f1, .int .u64 b.f2, .int .u64 b.f3, .int .u64 b.f4, .slice A5b b.f5.length c5b, .slice A6b b.f6.length c6b, .slice A7b b.f7.length c7b, .slice A8b b.f8.length c8b] 64))
          have hx := fun i => X.out.cell i
          have Y := Aside0.mk (show Blk ((w.alloc (.cells #[.int .i64 a.f0, .int .u64 a.f1, .int .u64 a.f2, .int .u64 a.f3, .int .u64 a.f4, .slice A5a a.f5.length c5a, .slice A6a a.f6.length c6a, .slice A7a a.f7.length c7a, .slice A8a a.f8.length c8a] 64)).alloc (.cells #[.int .i64 b.f0, .int .u64 b.f1, .int .u64 b.f2, .int .u64 b.f3, .int .u64 b.f4, .slice A5b b.f5.length c5b, .slice A6b b.f6.length c6b, .slice A7b b.f7.length c7b, .slice A8b b.f8.length c8b] 64)) (w.heap.size + 1) #[.int .i64 b.f0, .int .u64 b.f1, .int .u64 b.f2, .int .u64 b.f3, .int .u64 b.f4, .slice A5b b.f5.length c5b, .slice A6b b.f6.length c6b, .slice A7b b.f7.length c7b, .slice A8b b.f8.length c8b] 64 by have := Blk.new (w.alloc (.cells #[.int .i64 a.f0, .int .u64 a.f1, .int .u64 a.f2, .int .u64 a.f3, .int .u64 a.f4, .slice A5a a.f5.length c5a, .slice A6a a.f6.length c6a, .slice A7a a.f7.length c7a, .slice A8a a.f8.length c8a] 64)) #[.int .i64 b.f0, .int .u64 b.f1, .int .u64 b.f2, .int .u64 b.f3, .int .u64 b.f4, .slice A5b b.f5.length c5b, .slice A6b b.f6.length c6b, .slice A7b b.f7.length c7b, .slice A8b b.f8.length c8b] 64; simpa using this)
          have hy := fun i => Y.out.cell i
          have HA := Aside0.mk (hua.below B.out)
          have HB := Aside0.mk (hub.below B.out)
          clear hua hub
          go_enter Try.func8, Try.ntmps8
          go_wp2_with (first | (go_at_call 54; (with_reducible refine (CS.out _ _ HA.out).mono ?_); rintro e W1 ⟨rfl, hb⟩; replace B := Aside0.mk (below_then B.out B.out.size hb); replace HA := Aside0.mk (HA.out.below hb); replace HB := Aside0.mk (HB.out.below hb); replace X := Aside0.mk (X.out.below hb); replace hx := fun i => X.out.cell i; replace Y := Aside0.mk (Y.out.below hb); replace hy := fun i => Y.out.cell i; clear  hb) | (go_at_call 54; (with_reducible refine (CT.out _ _ HB.out).mono ?_); rintro e W2 ⟨rfl, hb⟩; replace B := Aside0.mk (below_then B.out B.out.size hb); replace HA := Aside0.mk (HA.out.below hb); replace HB := Aside0.mk (HB.out.below hb); replace X := Aside0.mk (X.out.below hb); replace hx := fun i => X.out.cell i; replace Y := Aside0.mk (Y.out.below hb); replace hy := fun i => Y.out.cell i; clear  hb) | (go_at_call 56; (with_reducible refine (KI.out _ _ _ HA.out HB.out).mono ?_); rintro e W3 ⟨rfl, hb⟩; replace B := Aside0.mk (below_then B.out B.out.size hb); replace HA := Aside0.mk (HA.out.below hb); replace HB := Aside0.mk (HB.out.below hb); replace X := Aside0.mk (X.out.below hb); replace hx := fun i => X.out.cell i; replace Y := Aside0.mk (Y.out.below hb); replace hy := fun i => Y.out.cell i; have hxa := fun i => (X.out.alloc (.cells #[.int .i64 v1, .int .i64 v2] 67)).cell i; have hya := fun i => (Y.out.alloc (.cells #[.int .i64 v1, .int .i64 v2] 67)).cell i; clear  hb))
          (try clear hxa hya)
          have hal := below_alloc (Below.refl W3.heap.size W3) (.cells #[.int .i64 v1, .int .i64 v2] 67)
          replace B := Aside0.mk (below_then B.out B.out.size hal)
          replace HA := Aside0.mk (HA.out.below hal)
          replace HB := Aside0.mk (HB.out.below hal)
          replace X := Aside0.mk (X.out.alloc (.cells #[.int .i64 v1, .int .i64 v2] 67)); replace hx := fun i => X.out.cell i
          replace Y := Aside0.mk (Y.out.alloc (.cells #[.int .i64 v1, .int .i64 v2] 67)); replace hy := fun i => Y.out.cell i
          have U := Aside0.mk (Blk.new W3 #[.int .i64 v1, .int .i64 v2] 67); have hu := fun i => U.out.cell i; clear hal
          go_wp2_with (first | (go_at_call 58; (with_reducible refine (R1.out _ _ HA.out).mono ?_); rintro e W4 ⟨ra, rfl, hr, hb⟩; replace B := Aside0.mk (below_then B.out B.out.size hb); replace HA := Aside0.mk (HA.out.below hb); replace HB := Aside0.mk (HB.out.below hb); replace X := Aside0.mk (X.out.below hb); replace hx := fun i => X.out.cell i; replace Y := Aside0.mk (Y.out.below hb); replace hy := fun i => Y.out.cell i; replace U := Aside0.mk (U.out.below hb); replace hu := fun i => U.out.cell i; (try (replace RB := Aside0.mk (RB.out.below hb))); have RA := Aside0.mk hr; clear hr hb) | (go_at_call 57; (with_reducible refine (CA.out _ _ RA.out).mono ?_); rintro e W5 ⟨rfl, hb⟩; replace B := Aside0.mk (below_then B.out B.out.size hb); replace HA := Aside0.mk (HA.out.below hb); replace HB := Aside0.mk (HB.out.below hb); replace X := Aside0.mk (X.out.below hb); replace hx := fun i => X.out.cell i; replace Y := Aside0.mk (Y.out.below hb); replace hy := fun i => Y.out.cell i; replace U := Aside0.mk (U.out.below hb); replace hu := fun i => U.out.cell i; clear  hb) | (go_at_call 58; (with_reducible refine (R2.out _ _ HB.out).mono ?_); rintro e W6 ⟨rb, rfl, hr, hb⟩; replace B := Aside0.mk (below_then B.out B.out.size hb); replace HA := Aside0.mk (HA.out.below hb); replace HB := Aside0.mk (HB.out.below hb); replace X := Aside0.mk (X.out.below hb); replace hx := fun i => X.out.cell i; replace Y := Aside0.mk (Y.out.below hb); replace hy := fun i => Y.out.cell i; replace U := Aside0.mk (U.out.below hb); replace hu := fun i => U.out.cell i; (try (replace RA := Aside0.mk (RA.out.below hb))); have RB := Aside0.mk hr; clear hr hb) | (go_at_call 57; (with_reducible refine (CB.out _ _ RB.out).mono ?_); rintro e W7 ⟨rfl, hb⟩; replace B := Aside0.mk (below_then B.out B.out.size hb); replace HA := Aside0.mk (HA.out.below hb); replace HB := Aside0.mk (HB.out.below hb); replace X := Aside0.mk (X.out.below hb); replace hx := fun i => X.out.cell i; replace Y := Aside0.mk (Y.out.below hb); replace hy := fun i => Y.out.cell i; replace U := Aside0.mk (U.out.below hb); replace hu := fun i => U.out.cell i; clear  hb))
          replace HA := Aside0.mk (HA.out.below (below_drew (Below.refl _ _)))
          replace HB := Aside0.mk (HB.out.below (below_drew (Below.refl _ _)))
          replace X := Aside0.mk (X.out.below (below_drew (Below.refl _ _)))
          replace Y := Aside0.mk (Y.out.below (below_drew (Below.refl _ _)))
          replace U := Aside0.mk (U.out.below (below_drew (Below.refl _ _)))
          replace B := Aside0.mk (below_drew B.out)
          go_region_held3 (fun W => (∀ i, W.cell? ⟨w.heap.size, i, none⟩ = (#[.int .i64 a.f0, .int .u64 a.f1, .int .u64 a.f2, .int .u64 a.f3, .int .u64 a.f4, .slice A5a a.f5.length c5a, .slice A6a a.f6.length c6a, .slice A7a a.f7.length c7a, .slice A8a a.f8.length c8a] : Array Value)[i]?) ∧ (∀ i, W.cell? ⟨w.heap.size + 1, i, none⟩ = (#[.int .i64 b.f0, .int .u64 b.f1, .int .u64 b.f2, .int .u64 b.f3, .int .u64 b.f4, .slice A5b b.f5.length c5b, .slice A6b b.f6.length c6b, .slice A7b b.f7.length c7b, .slice A8b b.f8.length c8b] : Array Value)[i]?)) (exact ⟨fun i => X.out.cell i, fun i => Y.out.cell i⟩) (first | (go_at_call 58; (with_reducible refine (R1.out _ _ HA.out).mono ?_); rintro e W4 ⟨ra, rfl, hr, hb⟩; replace B := Aside0.mk (below_then B.out B.out.size hb); replace HA := Aside0.mk (HA.out.below hb); replace HB := Aside0.mk (HB.out.below hb); replace X := Aside0.mk (X.out.below hb); replace hx := fun i => X.out.cell i; replace Y := Aside0.mk (Y.out.below hb); replace hy := fun i => Y.out.cell i; replace U := Aside0.mk (U.out.below hb); replace hu := fun i => U.out.cell i; (try (replace RB := Aside0.mk (RB.out.below hb))); have RA := Aside0.mk hr; clear hr hb) | (go_at_call 58; (with_reducible refine (R2.out _ _ HB.out).mono ?_); rintro e W6 ⟨rb, rfl, hr, hb⟩; replace B := Aside0.mk (below_then B.out B.out.size hb); replace HA := Aside0.mk (HA.out.below hb); replace HB := Aside0.mk (HB.out.below hb); replace X := Aside0.mk (X.out.below hb); replace hx := fun i => X.out.cell i; replace Y := Aside0.mk (Y.out.below hb); replace hy := fun i => Y.out.cell i; replace U := Aside0.mk (U.out.below hb); replace hu := fun i => U.out.cell i; (try (replace RA := Aside0.mk (RA.out.below hb))); have RB := Aside0.mk hr; clear hr hb) | (go_at_call 60; (with_reducible refine (RI.out _ _ _ RA.out RB.out).mono ?_); rintro e W10 ⟨rfl, hb⟩; replace B := Aside0.mk (below_then B.out B.out.size hb); replace HA := Aside0.mk (HA.out.below hb); replace HB := Aside0.mk (HB.out.below hb); replace X := Aside0.mk (X.out.below hb); replace hx := fun i => X.out.cell i; replace Y := Aside0.mk (Y.out.below hb); replace hy := fun i => Y.out.cell i; replace U := Aside0.mk (U.out.below hb); replace hu := fun i => U.out.cell i; clear  hb))
          all_goals go_wp2_with fail
          all_goals (replace HA := Aside0.mk (HA.out.below (below_drew (Below.refl _ _))); replace HB := Aside0.mk (HB.out.below (below_drew (Below.refl _ _))); replace X := Aside0.mk (X.out.below (below_drew (Below.refl _ _))); replace Y := Aside0.mk (Y.out.below (below_drew (Below.refl _ _))); replace U := Aside0.mk (U.out.below (below_drew (Below.refl _ _))); replace B := Aside0.mk (below_drew B.out); go_region_held3 (fun W => (∀ i, W.cell? ⟨w.heap.size, i, none⟩ = (#[.int .i64 a.f0, .int .u64 a.f1, .int .u64 a.f2, .int .u64 a.f3, .int .u64 a.f4, .slice A5a a.f5.length c5a, .slice A6a a.f6.length c6a, .slice A7a a.f7.length c7a, .slice A8a a.f8.length c8a] : Array Value)[i]?) ∧ (∀ i, W.cell? ⟨w.heap.size + 1, i, none⟩ = (#[.int .i64 b.f0, .int .u64 b.f1, .int .u64 b.f2, .int .u64 b.f3, .int .u64 b.f4, .slice A5b b.f5.length c5b, .slice A6b b.f6.length c6b, .slice A7b b.f7.length c7b, .slice A8b b.f8.length c8b] : Array Value)[i]?)) (exact ⟨fun i => X.out.cell i, fun i => Y.out.cell i⟩) (first | (go_at_call 58; (with_reducible refine (R1.out _ _ HA.out).mono ?_); rintro e W4 ⟨ra, rfl, hr, hb⟩; replace B := Aside0.mk (below_then B.out B.out.size hb); replace HA := Aside0.mk (HA.out.below hb); replace HB := Aside0.mk (HB.out.below hb); replace X := Aside0.mk (X.out.below hb); replace hx := fun i => X.out.cell i; replace Y := Aside0.mk (Y.out.below hb); replace hy := fun i => Y.out.cell i; replace U := Aside0.mk (U.out.below hb); replace hu := fun i => U.out.cell i; (try (replace RB := Aside0.mk (RB.out.below hb))); have RA := Aside0.mk hr; clear hr hb) | (go_at_call 58; (with_reducible refine (R2.out _ _ HB.out).mono ?_); rintro e W6 ⟨rb, rfl, hr, hb⟩; replace B := Aside0.mk (below_then B.out B.out.size hb); replace HA := Aside0.mk (HA.out.below hb); replace HB := Aside0.mk (HB.out.below hb); replace X := Aside0.mk (X.out.below hb); replace hx := fun i => X.out.cell i; replace Y := Aside0.mk (Y.out.below hb); replace hy := fun i => Y.out.cell i; replace U := Aside0.mk (U.out.below hb); replace hu := fun i => U.out.cell i; (try (replace RA := Aside0.mk (RA.out.below hb))); have RB := Aside0.mk hr; clear hr hb) | (go_at_call 60; (with_reducible refine (RJ.out _ _ _ RB.out RA.out).mono ?_); rintro e W11 ⟨rfl, hb⟩; replace B := Aside0.mk (below_then B.out B.out.size hb); replace HA := Aside0.mk (HA.out.below hb); replace HB := Aside0.mk (HB.out.below hb); replace X := Aside0.mk (X.out.below hb); replace hx := fun i => X.out.cell i; replace Y := Aside0.mk (Y.out.below hb); replace hy := fun i => Y.out.cell i; replace U := Aside0.mk (U.out.below hb); replace hu := fun i => U.out.cell i; clear  hb)))
          all_goals go_wp2_with (first | (go_at_call 59; (with_reducible refine (KS.out _ _ _ HA.out HB.out).mono ?_); rintro e W8 ⟨rfl, hb⟩; replace B := Aside0.mk (below_then B.out B.out.size hb); replace HA := Aside0.mk (HA.out.below hb); replace HB := Aside0.mk (HB.out.below hb); replace X := Aside0.mk (X.out.below hb); replace hx := fun i => X.out.cell i; replace Y := Aside0.mk (Y.out.below hb); replace hy := fun i => Y.out.cell i; replace U := Aside0.mk (U.out.below hb); replace hu := fun i => U.out.cell i; clear  hb) | (go_at_call 55; (with_reducible refine (awake11_c _).mono ?_); rintro e W9 ⟨rfl, hb⟩; replace B := Aside0.mk (below_then B.out B.out.size hb); replace HA := Aside0.mk (HA.out.below hb); replace HB := Aside0.mk (HB.out.below hb); replace X := Aside0.mk (X.out.below hb); replace hx := fun i => X.out.cell i; replace Y := Aside0.mk (Y.out.below hb); replace hy := fun i => Y.out.cell i; replace U := Aside0.mk (U.out.below hb); replace hu := fun i => U.out.cell i; clear  hb))
          all_goals go_ret
          all_goals exact ⟨rfl, B.out⟩
        · have d4 : (z1 == 0) = false := beq_eq_false_iff_ne.2 h2
          rw [decide_eq_true h1, decide_eq_false h2] at ks
          have KS := Aside0.mk ks
          clear ks h1 h2
          obtain ⟨A5a, c5a, A6a, c6a, A7a, c7a, A8a, c8a, e, -⟩ := hua.open_
          subst e
          obtain ⟨A5b, c5b, A6b, c6b, A7b, c7b, A8b, c8b, e, -⟩ := hub.open_
          subst e
          have B := Aside0.mk (below_alloc (below_alloc (Below.refl w.heap.size w) (.cells #[.int .i64 a.f0, .int .u64 a.f1, .int .u64 a.f2, .int .u64 a.f3, .int .u64 a.f4, .slice A5a a.f5.length c5a, .slice A6a a.f6.length c6a, .slice A7a a.f7.length c7a, .slice A8a a.f8.length c8a] 64)) (.cells #[.int .i64 b.f0, .int .u64 b.f1, .int .u64 b.f2, .int .u64 b.f3, .int .u64 b.f4, .slice A5b b.f5.length c5b, .slice A6b b.f6.length c6b, .slice A7b b.f7.length c7b, .slice A8b b.f8.length c8b] 64))
          have X := Aside0.mk ((Blk.new w #[.int .i64 a.f0, .int .u64 a.f1, .int .u64 a.f2, .int .u64 a.f3, .int .u64 a.f4, .slice A5a a.f5.length c5a, .slice A6a a.f6.length c6a, .slice A7a a.f7.length c7a, .slice A8a a.f8.length c8a] 64).alloc (.cells #[.int .i64 b.f0, .int .u64 b.f1, .int .u64 b.f2, .int .u64 b.f3, .int .u64 b.f4, .slice A5b b.f5.length c5b, .slice A6b b.f6.length c6b, .slice A7b b.f7.length c7b, .slice A8b b.f8.length c8b] 64))
          have hx := fun i => X.out.cell i
          have Y := Aside0.mk (show Blk ((w.alloc (.cells #[.int .i64 a.f0, .int .u64 a.f1, .int .u64 a.f2, .int .u64 a.f3, .int .u64 a.f4, .slice A5a a.f5.length c5a, .slice A6a a.f6.length c6a, .slice A7a a.f7.length c7a, .slice A8a a.f8.length c8a] 64)).alloc (.cells #[.int .i64 b.f0, .int .u64 b.f1, .int .u64 b.f2, .int .u64 b.f3, .int .u64 b.f4, .slice A5b b.f5.length c5b, .slice A6b b.f6.length c6b, .slice A7b b.f7.length c7b, .slice A8b b.f8.length c8b] 64)) (w.heap.size + 1) #[.int .i64 b.f0, .int .u64 b.f1, .int .u64 b.f2, .int .u64 b.f3, .int .u64 b.f4, .slice A5b b.f5.length c5b, .slice A6b b.f6.length c6b, .slice A7b b.f7.length c7b, .slice A8b b.f8.length c8b] 64 by have := Blk.new (w.alloc (.cells #[.int .i64 a.f0, .int .u64 a.f1, .int .u64 a.f2, .int .u64 a.f3, .int .u64 a.f4, .slice A5a a.f5.length c5a, .slice A6a a.f6.length c6a, .slice A7a a.f7.length c7a, .slice A8a a.f8.length c8a] 64)) #[.int .i64 b.f0, .int .u64 b.f1, .int .u64 b.f2, .int .u64 b.f3, .int .u64 b.f4, .slice A5b b.f5.length c5b, .slice A6b b.f6.length c6b, .slice A7b b.f7.length c7b, .slice A8b b.f8.length c8b] 64; simpa using this)
          have hy := fun i => Y.out.cell i
          have HA := Aside0.mk (hua.below B.out)
          have HB := Aside0.mk (hub.below B.out)
          clear hua hub
          go_enter Try.func8, Try.ntmps8
          go_wp2_with (first | (go_at_call 54; (with_reducible refine (CS.out _ _ HA.out).mono ?_); rintro e W1 ⟨rfl, hb⟩; replace B := Aside0.mk (below_then B.out B.out.size hb); replace HA := Aside0.mk (HA.out.below hb); replace HB := Aside0.mk (HB.out.below hb); replace X := Aside0.mk (X.out.below hb); replace hx := fun i => X.out.cell i; replace Y := Aside0.mk (Y.out.below hb); replace hy := fun i => Y.out.cell i; clear  hb) | (go_at_call 54; (with_reducible refine (CT.out _ _ HB.out).mono ?_); rintro e W2 ⟨rfl, hb⟩; replace B := Aside0.mk (below_then B.out B.out.size hb); replace HA := Aside0.mk (HA.out.below hb); replace HB := Aside0.mk (HB.out.below hb); replace X := Aside0.mk (X.out.below hb); replace hx := fun i => X.out.cell i; replace Y := Aside0.mk (Y.out.below hb); replace hy := fun i => Y.out.cell i; clear  hb) | (go_at_call 56; (with_reducible refine (KI.out _ _ _ HA.out HB.out).mono ?_); rintro e W3 ⟨rfl, hb⟩; replace B := Aside0.mk (below_then B.out B.out.size hb); replace HA := Aside0.mk (HA.out.below hb); replace HB := Aside0.mk (HB.out.below hb); replace X := Aside0.mk (X.out.below hb); replace hx := fun i => X.out.cell i; replace Y := Aside0.mk (Y.out.below hb); replace hy := fun i => Y.out.cell i; have hxa := fun i => (X.out.alloc (.cells #[.int .i64 v1, .int .i64 v2] 67)).cell i; have hya := fun i => (Y.out.alloc (.cells #[.int .i64 v1, .int .i64 v2] 67)).cell i; clear  hb))
          (try clear hxa hya)
          have hal := below_alloc (Below.refl W3.heap.size W3) (.cells #[.int .i64 v1, .int .i64 v2] 67)
          replace B := Aside0.mk (below_then B.out B.out.size hal)
          replace HA := Aside0.mk (HA.out.below hal)
          replace HB := Aside0.mk (HB.out.below hal)
          replace X := Aside0.mk (X.out.alloc (.cells #[.int .i64 v1, .int .i64 v2] 67)); replace hx := fun i => X.out.cell i
          replace Y := Aside0.mk (Y.out.alloc (.cells #[.int .i64 v1, .int .i64 v2] 67)); replace hy := fun i => Y.out.cell i
          have U := Aside0.mk (Blk.new W3 #[.int .i64 v1, .int .i64 v2] 67); have hu := fun i => U.out.cell i; clear hal
          go_wp2_with (first | (go_at_call 58; (with_reducible refine (R1.out _ _ HA.out).mono ?_); rintro e W4 ⟨ra, rfl, hr, hb⟩; replace B := Aside0.mk (below_then B.out B.out.size hb); replace HA := Aside0.mk (HA.out.below hb); replace HB := Aside0.mk (HB.out.below hb); replace X := Aside0.mk (X.out.below hb); replace hx := fun i => X.out.cell i; replace Y := Aside0.mk (Y.out.below hb); replace hy := fun i => Y.out.cell i; replace U := Aside0.mk (U.out.below hb); replace hu := fun i => U.out.cell i; (try (replace RB := Aside0.mk (RB.out.below hb))); have RA := Aside0.mk hr; clear hr hb) | (go_at_call 57; (with_reducible refine (CA.out _ _ RA.out).mono ?_); rintro e W5 ⟨rfl, hb⟩; replace B := Aside0.mk (below_then B.out B.out.size hb); replace HA := Aside0.mk (HA.out.below hb); replace HB := Aside0.mk (HB.out.below hb); replace X := Aside0.mk (X.out.below hb); replace hx := fun i => X.out.cell i; replace Y := Aside0.mk (Y.out.below hb); replace hy := fun i => Y.out.cell i; replace U := Aside0.mk (U.out.below hb); replace hu := fun i => U.out.cell i; clear  hb) | (go_at_call 58; (with_reducible refine (R2.out _ _ HB.out).mono ?_); rintro e W6 ⟨rb, rfl, hr, hb⟩; replace B := Aside0.mk (below_then B.out B.out.size hb); replace HA := Aside0.mk (HA.out.below hb); replace HB := Aside0.mk (HB.out.below hb); replace X := Aside0.mk (X.out.below hb); replace hx := fun i => X.out.cell i; replace Y := Aside0.mk (Y.out.below hb); replace hy := fun i => Y.out.cell i; replace U := Aside0.mk (U.out.below hb); replace hu := fun i => U.out.cell i; (try (replace RA := Aside0.mk (RA.out.below hb))); have RB := Aside0.mk hr; clear hr hb) | (go_at_call 57; (with_reducible refine (CB.out _ _ RB.out).mono ?_); rintro e W7 ⟨rfl, hb⟩; replace B := Aside0.mk (below_then B.out B.out.size hb); replace HA := Aside0.mk (HA.out.below hb); replace HB := Aside0.mk (HB.out.below hb); replace X := Aside0.mk (X.out.below hb); replace hx := fun i => X.out.cell i; replace Y := Aside0.mk (Y.out.below hb); replace hy := fun i => Y.out.cell i; replace U := Aside0.mk (U.out.below hb); replace hu := fun i => U.out.cell i; clear  hb))
          replace HA := Aside0.mk (HA.out.below (below_drew (Below.refl _ _)))
          replace HB := Aside0.mk (HB.out.below (below_drew (Below.refl _ _)))
          replace X := Aside0.mk (X.out.below (below_drew (Below.refl _ _)))
          replace Y := Aside0.mk (Y.out.below (below_drew (Below.refl _ _)))
          replace U := Aside0.mk (U.out.below (below_drew (Below.refl _ _)))
          replace B := Aside0.mk (below_drew B.out)
          go_region_held3 (fun W => (∀ i, W.cell? ⟨w.heap.size, i, none⟩ = (#[.int .i64 a.f0, .int .u64 a.f1, .int .u64 a.f2, .int .u64 a.f3, .int .u64 a.f4, .slice A5a a.f5.length c5a, .slice A6a a.f6.length c6a, .slice A7a a.f7.length c7a, .slice A8a a.f8.length c8a] : Array Value)[i]?) ∧ (∀ i, W.cell? ⟨w.heap.size + 1, i, none⟩ = (#[.int .i64 b.f0, .int .u64 b.f1, .int .u64 b.f2, .int .u64 b.f3, .int .u64 b.f4, .slice A5b b.f5.length c5b, .slice A6b b.f6.length c6b, .slice A7b b.f7.length c7b, .slice A8b b.f8.length c8b] : Array Value)[i]?)) (exact ⟨fun i => X.out.cell i, fun i => Y.out.cell i⟩) (first | (go_at_call 58; (with_reducible refine (R1.out _ _ HA.out).mono ?_); rintro e W4 ⟨ra, rfl, hr, hb⟩; replace B := Aside0.mk (below_then B.out B.out.size hb); replace HA := Aside0.mk (HA.out.below hb); replace HB := Aside0.mk (HB.out.below hb); replace X := Aside0.mk (X.out.below hb); replace hx := fun i => X.out.cell i; replace Y := Aside0.mk (Y.out.below hb); replace hy := fun i => Y.out.cell i; replace U := Aside0.mk (U.out.below hb); replace hu := fun i => U.out.cell i; (try (replace RB := Aside0.mk (RB.out.below hb))); have RA := Aside0.mk hr; clear hr hb) | (go_at_call 58; (with_reducible refine (R2.out _ _ HB.out).mono ?_); rintro e W6 ⟨rb, rfl, hr, hb⟩; replace B := Aside0.mk (below_then B.out B.out.size hb); replace HA := Aside0.mk (HA.out.below hb); replace HB := Aside0.mk (HB.out.below hb); replace X := Aside0.mk (X.out.below hb); replace hx := fun i => X.out.cell i; replace Y := Aside0.mk (Y.out.below hb); replace hy := fun i => Y.out.cell i; replace U := Aside0.mk (U.out.below hb); replace hu := fun i => U.out.cell i; (try (replace RA := Aside0.mk (RA.out.below hb))); have RB := Aside0.mk hr; clear hr hb) | (go_at_call 60; (with_reducible refine (RI.out _ _ _ RA.out RB.out).mono ?_); rintro e W10 ⟨rfl, hb⟩; replace B := Aside0.mk (below_then B.out B.out.size hb); replace HA := Aside0.mk (HA.out.below hb); replace HB := Aside0.mk (HB.out.below hb); replace X := Aside0.mk (X.out.below hb); replace hx := fun i => X.out.cell i; replace Y := Aside0.mk (Y.out.below hb); replace hy := fun i => Y.out.cell i; replace U := Aside0.mk (U.out.below hb); replace hu := fun i => U.out.cell i; clear  hb))
          all_goals go_wp2_with fail
          all_goals (replace HA := Aside0.mk (HA.out.below (below_drew (Below.refl _ _))); replace HB := Aside0.mk (HB.out.below (below_drew (Below.refl _ _))); replace X := Aside0.mk (X.out.below (below_drew (Below.refl _ _))); replace Y := Aside0.mk (Y.out.below (below_drew (Below.refl _ _))); replace U := Aside0.mk (U.out.below (below_drew (Below.refl _ _))); replace B := Aside0.mk (below_drew B.out); go_region_held3 (fun W => (∀ i, W.cell? ⟨w.heap.size, i, none⟩ = (#[.int .i64 a.f0, .int .u64 a.f1, .int .u64 a.f2, .int .u64 a.f3, .int .u64 a.f4, .slice A5a a.f5.length c5a, .slice A6a a.f6.length c6a, .slice A7a a.f7.length c7a, .slice A8a a.f8.length c8a] : Array Value)[i]?) ∧ (∀ i, W.cell? ⟨w.heap.size + 1, i, none⟩ = (#[.int .i64 b.f0, .int .u64 b.f1, .int .u64 b.f2, .int .u64 b.f3, .int .u64 b.f4, .slice A5b b.f5.length c5b, .slice A6b b.f6.length c6b, .slice A7b b.f7.length c7b, .slice A8b b.f8.length c8b] : Array Value)[i]?)) (exact ⟨fun i => X.out.cell i, fun i => Y.out.cell i⟩) (first | (go_at_call 58; (with_reducible refine (R1.out _ _ HA.out).mono ?_); rintro e W4 ⟨ra, rfl, hr, hb⟩; replace B := Aside0.mk (below_then B.out B.out.size hb); replace HA := Aside0.mk (HA.out.below hb); replace HB := Aside0.mk (HB.out.below hb); replace X := Aside0.mk (X.out.below hb); replace hx := fun i => X.out.cell i; replace Y := Aside0.mk (Y.out.below hb); replace hy := fun i => Y.out.cell i; replace U := Aside0.mk (U.out.below hb); replace hu := fun i => U.out.cell i; (try (replace RB := Aside0.mk (RB.out.below hb))); have RA := Aside0.mk hr; clear hr hb) | (go_at_call 58; (with_reducible refine (R2.out _ _ HB.out).mono ?_); rintro e W6 ⟨rb, rfl, hr, hb⟩; replace B := Aside0.mk (below_then B.out B.out.size hb); replace HA := Aside0.mk (HA.out.below hb); replace HB := Aside0.mk (HB.out.below hb); replace X := Aside0.mk (X.out.below hb); replace hx := fun i => X.out.cell i; replace Y := Aside0.mk (Y.out.below hb); replace hy := fun i => Y.out.cell i; replace U := Aside0.mk (U.out.below hb); replace hu := fun i => U.out.cell i; (try (replace RA := Aside0.mk (RA.out.below hb))); have RB := Aside0.mk hr; clear hr hb) | (go_at_call 60; (with_reducible refine (RJ.out _ _ _ RB.out RA.out).mono ?_); rintro e W11 ⟨rfl, hb⟩; replace B := Aside0.mk (below_then B.out B.out.size hb); replace HA := Aside0.mk (HA.out.below hb); replace HB := Aside0.mk (HB.out.below hb); replace X := Aside0.mk (X.out.below hb); replace hx := fun i => X.out.cell i; replace Y := Aside0.mk (Y.out.below hb); replace hy := fun i => Y.out.cell i; replace U := Aside0.mk (U.out.below hb); replace hu := fun i => U.out.cell i; clear  hb)))
          all_goals go_wp2_with (first | (go_at_call 59; (with_reducible refine (KS.out _ _ _ HA.out HB.out).mono ?_); rintro e W8 ⟨rfl, hb⟩; replace B := Aside0.mk (below_then B.out B.out.size hb); replace HA := Aside0.mk (HA.out.below hb); replace HB := Aside0.mk (HB.out.below hb); replace X := Aside0.mk (X.out.below hb); replace hx := fun i => X.out.cell i; replace Y := Aside0.mk (Y.out.below hb); replace hy := fun i => Y.out.cell i; replace U := Aside0.mk (U.out.below hb); replace hu := fun i => U.out.cell i; clear  hb) | (go_at_call 55; (with_reducible refine (awake11_c _).mono ?_); rintro e W9 ⟨rfl, hb⟩; replace B := Aside0.mk (below_then B.out B.out.size hb); replace HA := Aside0.mk (HA.out.below hb); replace HB := Aside0.mk (HB.out.below hb); replace X := Aside0.mk (X.out.below hb); replace hx := fun i => X.out.cell i; replace Y := Aside0.mk (Y.out.below hb); replace hy := fun i => Y.out.cell i; replace U := Aside0.mk (U.out.below hb); replace hu := fun i => U.out.cell i; clear  hb))
          all_goals go_ret
          all_goals exact ⟨rfl, B.out⟩
      · have d3 : (v1 == 0) = false := beq_eq_false_iff_ne.2 h1
        rw [decide_eq_false h1, Bool.false_and] at ks
        have KS := Aside0.mk ks
        clear ks h1
        obtain ⟨A5a, c5a, A6a, c6a, A7a, c7a, A8a, c8a, e, -⟩ := hua.open_
        subst e
        obtain ⟨A5b, c5b, A6b, c6b, A7b, c7b, A8b, c8b, e, -⟩ := hub.open_
        subst e
        have B := Aside0.mk (below_alloc (below_alloc (Below.refl w.heap.size w) (.cells #[.int .i64 a.f0, .int .u64 a.f1, .int .u64 a.f2, .int .u64 a.f3, .int .u64 a.f4, .slice A5a a.f5.length c5a, .slice A6a a.f6.length c6a, .slice A7a a.f7.length c7a, .slice A8a a.f8.length c8a] 64)) (.cells #[.int .i64 b.f0, .int .u64 b.f1, .int .u64 b.f2, .int .u64 b.f3, .int .u64 b.f4, .slice A5b b.f5.length c5b, .slice A6b b.f6.length c6b, .slice A7b b.f7.length c7b, .slice A8b b.f8.length c8b] 64))
        have X := Aside0.mk ((Blk.new w #[.int .i64 a.f0, .int .u64 a.f1, .int .u64 a.f2, .int .u64 a.f3, .int .u64 a.f4, .slice A5a a.f5.length c5a, .slice A6a a.f6.length c6a, .slice A7a a.f7.length c7a, .slice A8a a.f8.length c8a] 64).alloc (.cells #[.int .i64 b.f0, .int .u64 b.f1, .int .u64 b.f2, .int .u64 b.f3, .int .u64 b.f4, .slice A5b b.f5.length c5b, .slice A6b b.f6.length c6b, .slice A7b b.f7.length c7b, .slice A8b b.f8.length c8b] 64))
        have hx := fun i => X.out.cell i
        have Y := Aside0.mk (show Blk ((w.alloc (.cells #[.int .i64 a.f0, .int .u64 a.f1, .int .u64 a.f2, .int .u64 a.f3, .int .u64 a.f4, .slice A5a a.f5.length c5a, .slice A6a a.f6.length c6a, .slice A7a a.f7.length c7a, .slice A8a a.f8.length c8a] 64)).alloc (.cells #[.int .i64 b.f0, .int .u64 b.f1, .int .u64 b.f2, .int .u64 b.f3, .int .u64 b.f4, .slice A5b b.f5.length c5b, .slice A6b b.f6.length c6b, .slice A7b b.f7.length c7b, .slice A8b b.f8.length c8b] 64)) (w.heap.size + 1) #[.int .i64 b.f0, .int .u64 b.f1, .int .u64 b.f2, .int .u64 b.f3, .int .u64 b.f4, .slice A5b b.f5.length c5b, .slice A6b b.f6.length c6b, .slice A7b b.f7.length c7b, .slice A8b b.f8.length c8b] 64 by have := Blk.new (w.alloc (.cells #[.int .i64 a.f0, .int .u64 a.f1, .int .u64 a.f2, .int .u64 a.f3, .int .u64 a.f4, .slice A5a a.f5.length c5a, .slice A6a a.f6.length c6a, .slice A7a a.f7.length c7a, .slice A8a a.f8.length c8a] 64)) #[.int .i64 b.f0, .int .u64 b.f1, .int .u64 b.f2, .int .u64 b.f3, .int .u64 b.f4, .slice A5b b.f5.length c5b, .slice A6b b.f6.length c6b, .slice A7b b.f7.length c7b, .slice A8b b.f8.length c8b] 64; simpa using this)
        have hy := fun i => Y.out.cell i
        have HA := Aside0.mk (hua.below B.out)
        have HB := Aside0.mk (hub.below B.out)
        clear hua hub
        go_enter Try.func8, Try.ntmps8
        go_wp2_with (first | (go_at_call 54; (with_reducible refine (CS.out _ _ HA.out).mono ?_); rintro e W1 ⟨rfl, hb⟩; replace B := Aside0.mk (below_then B.out B.out.size hb); replace HA := Aside0.mk (HA.out.below hb); replace HB := Aside0.mk (HB.out.below hb); replace X := Aside0.mk (X.out.below hb); replace hx := fun i => X.out.cell i; replace Y := Aside0.mk (Y.out.below hb); replace hy := fun i => Y.out.cell i; clear  hb) | (go_at_call 54; (with_reducible refine (CT.out _ _ HB.out).mono ?_); rintro e W2 ⟨rfl, hb⟩; replace B := Aside0.mk (below_then B.out B.out.size hb); replace HA := Aside0.mk (HA.out.below hb); replace HB := Aside0.mk (HB.out.below hb); replace X := Aside0.mk (X.out.below hb); replace hx := fun i => X.out.cell i; replace Y := Aside0.mk (Y.out.below hb); replace hy := fun i => Y.out.cell i; clear  hb) | (go_at_call 56; (with_reducible refine (KI.out _ _ _ HA.out HB.out).mono ?_); rintro e W3 ⟨rfl, hb⟩; replace B := Aside0.mk (below_then B.out B.out.size hb); replace HA := Aside0.mk (HA.out.below hb); replace HB := Aside0.mk (HB.out.below hb); replace X := Aside0.mk (X.out.below hb); replace hx := fun i => X.out.cell i; replace Y := Aside0.mk (Y.out.below hb); replace hy := fun i => Y.out.cell i; have hxa := fun i => (X.out.alloc (.cells #[.int .i64 v1, .int .i64 v2] 67)).cell i; have hya := fun i => (Y.out.alloc (.cells #[.int .i64 v1, .int .i64 v2] 67)).cell i; clear  hb))
        (try clear hxa hya)
        have hal := below_alloc (Below.refl W3.heap.size W3) (.cells #[.int .i64 v1, .int .i64 v2] 67)
        replace B := Aside0.mk (below_then B.out B.out.size hal)
        replace HA := Aside0.mk (HA.out.below hal)
        replace HB := Aside0.mk (HB.out.below hal)
        replace X := Aside0.mk (X.out.alloc (.cells #[.int .i64 v1, .int .i64 v2] 67)); replace hx := fun i => X.out.cell i
        replace Y := Aside0.mk (Y.out.alloc (.cells #[.int .i64 v1, .int .i64 v2] 67)); replace hy := fun i => Y.out.cell i
        have U := Aside0.mk (Blk.new W3 #[.int .i64 v1, .int .i64 v2] 67); have hu := fun i => U.out.cell i; clear hal
        go_wp2_with (first | (go_at_call 58; (with_reducible refine (R1.out _ _ HA.out).mono ?_); rintro e W4 ⟨ra, rfl, hr, hb⟩; replace B := Aside0.mk (below_then B.out B.out.size hb); replace HA := Aside0.mk (HA.out.below hb); replace HB := Aside0.mk (HB.out.below hb); replace X := Aside0.mk (X.out.below hb); replace hx := fun i => X.out.cell i; replace Y := Aside0.mk (Y.out.below hb); replace hy := fun i => Y.out.cell i; replace U := Aside0.mk (U.out.below hb); replace hu := fun i => U.out.cell i; (try (replace RB := Aside0.mk (RB.out.below hb))); have RA := Aside0.mk hr; clear hr hb) | (go_at_call 57; (with_reducible refine (CA.out _ _ RA.out).mono ?_); rintro e W5 ⟨rfl, hb⟩; replace B := Aside0.mk (below_then B.out B.out.size hb); replace HA := Aside0.mk (HA.out.below hb); replace HB := Aside0.mk (HB.out.below hb); replace X := Aside0.mk (X.out.below hb); replace hx := fun i => X.out.cell i; replace Y := Aside0.mk (Y.out.below hb); replace hy := fun i => Y.out.cell i; replace U := Aside0.mk (U.out.below hb); replace hu := fun i => U.out.cell i; clear  hb) | (go_at_call 58; (with_reducible refine (R2.out _ _ HB.out).mono ?_); rintro e W6 ⟨rb, rfl, hr, hb⟩; replace B := Aside0.mk (below_then B.out B.out.size hb); replace HA := Aside0.mk (HA.out.below hb); replace HB := Aside0.mk (HB.out.below hb); replace X := Aside0.mk (X.out.below hb); replace hx := fun i => X.out.cell i; replace Y := Aside0.mk (Y.out.below hb); replace hy := fun i => Y.out.cell i; replace U := Aside0.mk (U.out.below hb); replace hu := fun i => U.out.cell i; (try (replace RA := Aside0.mk (RA.out.below hb))); have RB := Aside0.mk hr; clear hr hb) | (go_at_call 57; (with_reducible refine (CB.out _ _ RB.out).mono ?_); rintro e W7 ⟨rfl, hb⟩; replace B := Aside0.mk (below_then B.out B.out.size hb); replace HA := Aside0.mk (HA.out.below hb); replace HB := Aside0.mk (HB.out.below hb); replace X := Aside0.mk (X.out.below hb); replace hx := fun i => X.out.cell i; replace Y := Aside0.mk (Y.out.below hb); replace hy := fun i => Y.out.cell i; replace U := Aside0.mk (U.out.below hb); replace hu := fun i => U.out.cell i; clear  hb))
        replace HA := Aside0.mk (HA.out.below (below_drew (Below.refl _ _)))
        replace HB := Aside0.mk (HB.out.below (below_drew (Below.refl _ _)))
        replace X := Aside0.mk (X.out.below (below_drew (Below.refl _ _)))
        replace Y := Aside0.mk (Y.out.below (below_drew (Below.refl _ _)))
        replace U := Aside0.mk (U.out.below (below_drew (Below.refl _ _)))
        replace B := Aside0.mk (below_drew B.out)
        go_region_held3 (fun W => (∀ i, W.cell? ⟨w.heap.size, i, none⟩ = (#[.int .i64 a.f0, .int .u64 a.f1, .int .u64 a.f2, .int .u64 a.f3, .int .u64 a.f4, .slice A5a a.f5.length c5a, .slice A6a a.f6.length c6a, .slice A7a a.f7.length c7a, .slice A8a a.f8.length c8a] : Array Value)[i]?) ∧ (∀ i, W.cell? ⟨w.heap.size + 1, i, none⟩ = (#[.int .i64 b.f0, .int .u64 b.f1, .int .u64 b.f2, .int .u64 b.f3, .int .u64 b.f4, .slice A5b b.f5.length c5b, .slice A6b b.f6.length c6b, .slice A7b b.f7.length c7b, .slice A8b b.f8.length c8b] : Array Value)[i]?)) (exact ⟨fun i => X.out.cell i, fun i => Y.out.cell i⟩) (first | (go_at_call 58; (with_reducible refine (R1.out _ _ HA.out).mono ?_); rintro e W4 ⟨ra, rfl, hr, hb⟩; replace B := Aside0.mk (below_then B.out B.out.size hb); replace HA := Aside0.mk (HA.out.below hb); replace HB := Aside0.mk (HB.out.below hb); replace X := Aside0.mk (X.out.below hb); replace hx := fun i => X.out.cell i; replace Y := Aside0.mk (Y.out.below hb); replace hy := fun i => Y.out.cell i; replace U := Aside0.mk (U.out.below hb); replace hu := fun i => U.out.cell i; (try (replace RB := Aside0.mk (RB.out.below hb))); have RA := Aside0.mk hr; clear hr hb) | (go_at_call 58; (with_reducible refine (R2.out _ _ HB.out).mono ?_); rintro e W6 ⟨rb, rfl, hr, hb⟩; replace B := Aside0.mk (below_then B.out B.out.size hb); replace HA := Aside0.mk (HA.out.below hb); replace HB := Aside0.mk (HB.out.below hb); replace X := Aside0.mk (X.out.below hb); replace hx := fun i => X.out.cell i; replace Y := Aside0.mk (Y.out.below hb); replace hy := fun i => Y.out.cell i; replace U := Aside0.mk (U.out.below hb); replace hu := fun i => U.out.cell i; (try (replace RA := Aside0.mk (RA.out.below hb))); have RB := Aside0.mk hr; clear hr hb) | (go_at_call 60; (with_reducible refine (RI.out _ _ _ RA.out RB.out).mono ?_); rintro e W10 ⟨rfl, hb⟩; replace B := Aside0.mk (below_then B.out B.out.size hb); replace HA := Aside0.mk (HA.out.below hb); replace HB := Aside0.mk (HB.out.below hb); replace X := Aside0.mk (X.out.below hb); replace hx := fun i => X.out.cell i; replace Y := Aside0.mk (Y.out.below hb); replace hy := fun i => Y.out.cell i; replace U := Aside0.mk (U.out.below hb); replace hu := fun i => U.out.cell i; clear  hb))
        all_goals go_wp2_with fail
        all_goals (replace HA := Aside0.mk (HA.out.below (below_drew (Below.refl _ _))); replace HB := Aside0.mk (HB.out.below (below_drew (Below.refl _ _))); replace X := Aside0.mk (X.out.below (below_drew (Below.refl _ _))); replace Y := Aside0.mk (Y.out.below (below_drew (Below.refl _ _))); replace U := Aside0.mk (U.out.below (below_drew (Below.refl _ _))); replace B := Aside0.mk (below_drew B.out); go_region_held3 (fun W => (∀ i, W.cell? ⟨w.heap.size, i, none⟩ = (#[.int .i64 a.f0, .int .u64 a.f1, .int .u64 a.f2, .int .u64 a.f3, .int .u64 a.f4, .slice A5a a.f5.length c5a, .slice A6a a.f6.length c6a, .slice A7a a.f7.length c7a, .slice A8a a.f8.length c8a] : Array Value)[i]?) ∧ (∀ i, W.cell? ⟨w.heap.size + 1, i, none⟩ = (#[.int .i64 b.f0, .int .u64 b.f1, .int .u64 b.f2, .int .u64 b.f3, .int .u64 b.f4, .slice A5b b.f5.length c5b, .slice A6b b.f6.length c6b, .slice A7b b.f7.length c7b, .slice A8b b.f8.length c8b] : Array Value)[i]?)) (exact ⟨fun i => X.out.cell i, fun i => Y.out.cell i⟩) (first | (go_at_call 58; (with_reducible refine (R1.out _ _ HA.out).mono ?_); rintro e W4 ⟨ra, rfl, hr, hb⟩; replace B := Aside0.mk (below_then B.out B.out.size hb); replace HA := Aside0.mk (HA.out.below hb); replace HB := Aside0.mk (HB.out.below hb); replace X := Aside0.mk (X.out.below hb); replace hx := fun i => X.out.cell i; replace Y := Aside0.mk (Y.out.below hb); replace hy := fun i => Y.out.cell i; replace U := Aside0.mk (U.out.below hb); replace hu := fun i => U.out.cell i; (try (replace RB := Aside0.mk (RB.out.below hb))); have RA := Aside0.mk hr; clear hr hb) | (go_at_call 58; (with_reducible refine (R2.out _ _ HB.out).mono ?_); rintro e W6 ⟨rb, rfl, hr, hb⟩; replace B := Aside0.mk (below_then B.out B.out.size hb); replace HA := Aside0.mk (HA.out.below hb); replace HB := Aside0.mk (HB.out.below hb); replace X := Aside0.mk (X.out.below hb); replace hx := fun i => X.out.cell i; replace Y := Aside0.mk (Y.out.below hb); replace hy := fun i => Y.out.cell i; replace U := Aside0.mk (U.out.below hb); replace hu := fun i => U.out.cell i; (try (replace RA := Aside0.mk (RA.out.below hb))); have RB := Aside0.mk hr; clear hr hb) | (go_at_call 60; (with_reducible refine (RJ.out _ _ _ RB.out RA.out).mono ?_); rintro e W11 ⟨rfl, hb⟩; replace B := Aside0.mk (below_then B.out B.out.size hb); replace HA := Aside0.mk (HA.out.below hb); replace HB := Aside0.mk (HB.out.below hb); replace X := Aside0.mk (X.out.below hb); replace hx := fun i => X.out.cell i; replace Y := Aside0.mk (Y.out.below hb); replace hy := fun i => Y.out.cell i; replace U := Aside0.mk (U.out.below hb); replace hu := fun i => U.out.cell i; clear  hb)))
        all_goals go_wp2_with (first | (go_at_call 59; (with_reducible refine (KS.out _ _ _ HA.out HB.out).mono ?_); rintro e W8 ⟨rfl, hb⟩; replace B := Aside0.mk (below_then B.out B.out.size hb); replace HA := Aside0.mk (HA.out.below hb); replace HB := Aside0.mk (HB.out.below hb); replace X := Aside0.mk (X.out.below hb); replace hx := fun i => X.out.cell i; replace Y := Aside0.mk (Y.out.below hb); replace hy := fun i => Y.out.cell i; replace U := Aside0.mk (U.out.below hb); replace hu := fun i => U.out.cell i; clear  hb) | (go_at_call 55; (with_reducible refine (awake11_c _).mono ?_); rintro e W9 ⟨rfl, hb⟩; replace B := Aside0.mk (below_then B.out B.out.size hb); replace HA := Aside0.mk (HA.out.below hb); replace HB := Aside0.mk (HB.out.below hb); replace X := Aside0.mk (X.out.below hb); replace hx := fun i => X.out.cell i; replace Y := Aside0.mk (Y.out.below hb); replace hy := fun i => Y.out.cell i; replace U := Aside0.mk (U.out.below hb); replace hu := fun i => U.out.cell i; clear  hb))
        all_goals go_ret
        all_goals exact ⟨rfl, B.out⟩
def tidepolelaw11_ResetInts.f (s0 z0 zc0 ct0 sm0 : Int) (l0_5 l0_6 : List Sp) (l0_7 l0_8 : List Int) (s1 z1 zc1 ct1 sm1 : Int) (l1_5 l1_6 : List Sp) (l1_7 l1_8 : List Int) : Option Bool := if wfI ⟨s0, z0, zc0, ct0, sm0, l0_5, l0_6, l0_7, l0_8⟩ ∧ wfI ⟨s1, z1, zc1, ct1, sm1, l1_5, l1_6, l1_7, l1_8⟩ then some true else none
theorem tidepolelaw11_ResetInts.calls (s0 : Int) (z0 : Int) (zc0 : Int) (ct0 : Int) (sm0 : Int) (A0_5 : Option Addr) (c0_5 : Nat) (l0_5 : List Sp) (A0_6 : Option Addr) (c0_6 : Nat) (l0_6 : List Sp) (A0_7 : Option Addr) (c0_7 : Nat) (l0_7 : List Int) (A0_8 : Option Addr) (c0_8 : Nat) (l0_8 : List Int) (s1 : Int) (z1 : Int) (zc1 : Int) (ct1 : Int) (sm1 : Int) (A1_5 : Option Addr) (c1_5 : Nat) (l1_5 : List Sp) (A1_6 : Option Addr) (c1_6 : Nat) (l1_6 : List Sp) (A1_7 : Option Addr) (c1_7 : Nat) (l1_7 : List Int) (A1_8 : Option Addr) (c1_8 : Nat) (l1_8 : List Int) (r : Bool) (w : World) (hr0_5 : Kd.C kSp w A0_5 l0_5.length l0_5) (hc0_5 : l0_5.length ≤ c0_5) (hr0_6 : Kd.C kSp w A0_6 l0_6.length l0_6) (hc0_6 : l0_6.length ≤ c0_6) (hr0_7 : Kd.C (Kd.int .i64) w A0_7 l0_7.length l0_7) (hc0_7 : l0_7.length ≤ c0_7) (hr0_8 : Kd.C (Kd.int .i64) w A0_8 l0_8.length l0_8) (hc0_8 : l0_8.length ≤ c0_8) (hr1_5 : Kd.C kSp w A1_5 l1_5.length l1_5) (hc1_5 : l1_5.length ≤ c1_5) (hr1_6 : Kd.C kSp w A1_6 l1_6.length l1_6) (hc1_6 : l1_6.length ≤ c1_6) (hr1_7 : Kd.C (Kd.int .i64) w A1_7 l1_7.length l1_7) (hc1_7 : l1_7.length ≤ c1_7) (hr1_8 : Kd.C (Kd.int .i64) w A1_8 l1_8.length l1_8) (hc1_8 : l1_8.length ≤ c1_8) (h : tidepolelaw11_ResetInts.f s0 z0 zc0 ct0 sm0 l0_5 l0_6 l0_7 l0_8 s1 z1 zc1 ct1 sm1 l1_5 l1_6 l1_7 l1_8 = some r) :
    Calls Try.prog 8 #[.agg #[.int .i64 s0, .int .u64 z0, .int .u64 zc0, .int .u64 ct0, .int .u64 sm0, .slice A0_5 l0_5.length c0_5, .slice A0_6 l0_6.length c0_6, .slice A0_7 l0_7.length c0_7, .slice A0_8 l0_8.length c0_8], .agg #[.int .i64 s1, .int .u64 z1, .int .u64 zc1, .int .u64 ct1, .int .u64 sm1, .slice A1_5 l1_5.length c1_5, .slice A1_6 l1_6.length c1_6, .slice A1_7 l1_7.length c1_7, .slice A1_8 l1_8.length c1_8]] w fun e w' => e = .returned (.bool r) ∧ Below w.heap.size w w' := by
  obtain ⟨⟨q0, q1⟩, rfl⟩ := of_ite_some h
  exact resetInts_c _ _ q0 q1 w _ _ (HI.mk (h := ⟨s0, z0, zc0, ct0, sm0, l0_5, l0_6, l0_7, l0_8⟩) (.of hr0_5 hc0_5) (.of hr0_6 hc0_6) (.of hr0_7 hc0_7) (.of hr0_8 hc0_8)) (HI.mk (h := ⟨s1, z1, zc1, ct1, sm1, l1_5, l1_6, l1_7, l1_8⟩) (.of hr1_5 hc1_5) (.of hr1_6 hc1_6) (.of hr1_7 hc1_7) (.of hr1_8 hc1_8))
end Go.Proofs.Ytacgeafjilipdaa.P
namespace Go.Proofs.Ytacgeafjilipdaa.P
def headSigns : List Char := List.map Char.ofNat [104, 97, 114, 110, 101, 115, 115, 32, 97, 50, 97, 99, 52, 56, 53, 53, 54, 101, 54, 52, 97, 51, 49, 101, 54, 54, 98, 55, 102, 55, 97, 51, 54, 49, 102, 100, 52, 100, 51, 54, 55, 57, 100, 102, 98, 49, 97, 57, 53, 50, 101, 57, 54, 51, 55, 99, 57, 57, 56, 52, 48, 101, 100, 50, 99, 98, 97, 100, 54, 54, 50, 100, 32, 99, 117, 116, 32, 97, 116, 32, 116, 105, 100, 101, 112, 111, 108, 101, 47, 116, 105, 100, 101, 112, 111, 108, 101, 108, 97, 119, 48, 55, 46, 80, 97, 105, 114, 115, 85, 110, 122, 105, 112, 32, 116, 105, 100, 101, 112, 111, 108, 101, 47, 116, 105, 100, 101, 112, 111, 108, 101, 108, 97, 119, 48, 55, 46, 80, 97, 105, 114, 115, 70, 105, 110, 100, 115, 32, 116, 105, 100, 101, 112, 111, 108, 101, 47, 116, 105, 100, 101, 112, 111, 108, 101, 108, 97, 119, 48, 55, 46, 80, 97, 105, 114, 115, 77, 101, 114, 103, 101, 32, 116, 105, 100, 101, 112, 111, 108, 101, 47, 116, 105, 100, 101, 112, 111, 108, 101, 108, 97, 119, 48, 55, 46, 80, 97, 105, 114, 115, 90, 105, 112, 32, 116, 105, 100, 101, 112, 111, 108, 101, 47, 116, 105, 100, 101, 112, 111, 108, 101, 108, 97, 119, 48, 55, 46, 80, 97, 105, 114, 115, 68, 101, 108, 116, 97, 115, 32, 116, 105, 100, 101, 112, 111, 108, 101, 47, 116, 105, 100, 101, 112, 111, 108, 101, 108, 97, 119, 49, 49, 46, 82, 101, 115, 101, 116, 73, 110, 116, 115, 32, 116, 105, 100, 101, 112, 111, 108, 101, 47, 116, 105, 100, 101, 112, 111, 108, 101, 108, 97, 119, 49, 49, 46, 82, 101, 115, 101, 116, 70, 108, 111, 97, 116, 115, 32, 116, 105, 100, 101, 112, 111, 108, 101, 47, 116, 105, 100, 101, 112, 111, 108, 101, 108, 97, 119, 49, 49, 46, 82, 101, 115, 101, 116, 78, 97, 109, 101, 115, 32, 116, 105, 100, 101, 112, 111, 108, 101, 47, 116, 105, 100, 101, 112, 111, 108, 101, 108, 97, 119, 49, 49, 46, 82, 101, 115, 101, 116, 71, 111, 101, 115, 32, 116, 105, 100, 101, 112, 111, 108, 101, 47, 116, 105, 100, 101, 112, 111, 108, 101, 108, 97, 119, 49, 49, 46, 82, 101, 115, 101, 116, 66, 111, 116, 104, 32, 116, 105, 100, 101, 112, 111, 108, 101, 47, 116, 105, 100, 101, 112, 111, 108, 101, 108, 97, 119, 48, 57, 46, 72, 105, 115, 116, 67, 104, 101, 99, 107, 115, 32, 116, 105, 100, 101, 112, 111, 108, 101, 47, 116, 105, 100, 101, 112, 111, 108, 101, 108, 97, 119, 48, 57, 46, 72, 105, 115, 116, 80, 97, 105, 114, 115, 32, 116, 105, 100, 101, 112, 111, 108, 101, 47, 116, 105, 100, 101, 112, 111, 108, 101, 108, 97, 119, 48, 57, 46, 72, 105, 115, 116, 69, 113, 117, 97, 108, 32, 116, 105, 100, 101, 112, 111, 108, 101, 47, 116, 105, 100, 101, 112, 111, 108, 101, 108, 97, 119, 48, 57, 46, 72, 105, 115, 116, 79, 118, 101, 114, 32, 116, 105, 100, 101, 112, 111, 108, 101, 47, 116, 105, 100, 101, 112, 111, 108, 101, 108, 97, 119, 48, 57, 46, 72, 105, 115, 116, 77, 97, 107, 101, 115, 32, 116, 105, 100, 101, 112, 111, 108, 101, 47, 116, 105, 100, 101, 112, 111, 108, 101, 108, 97, 119, 48, 57, 46, 72, 105, 115, 116, 67, 97, 110, 111, 110, 32, 116, 105, 100, 101, 112, 111, 108, 101, 47, 116, 105, 100, 101, 112, 111, 108, 101, 108, 97, 119, 48, 57, 46, 72, 105, 115, 116, 87, 97, 108, 107, 115, 32, 116, 105, 100, 101, 112, 111, 108, 101, 47, 116, 105, 100, 101, 112, 111, 108, 101, 108, 97, 119, 49, 49, 46, 82, 101, 115, 101, 116, 76, 97, 121, 115, 32, 116, 105, 100, 101, 112, 111, 108, 101, 47, 116, 105, 100, 101, 112, 111, 108, 101, 108, 97, 119, 49, 48, 46, 70, 104, 105, 115, 116, 67, 104, 101, 99, 107, 115, 32, 116, 105, 100, 101, 112, 111, 108, 101, 47, 116, 105, 100, 101, 112, 111, 108, 101, 108, 97, 119, 49, 48, 46, 70, 104, 105, 115, 116, 80, 97, 105, 114, 115, 32, 116, 105, 100, 101, 112, 111, 108, 101, 47, 116, 105, 100, 101, 112, 111, 108, 101, 108, 97, 119, 49, 48, 46, 70, 104, 105, 115, 116, 69, 113, 117, 97, 108, 32, 116, 105, 100, 101, 112, 111, 108, 101, 47, 116, 105, 100, 101, 112, 111, 108, 101, 108, 97, 119, 49, 48, 46, 70, 104, 105, 115, 116, 79, 118, 101, 114, 32, 116, 105, 100, 101, 112, 111, 108, 101, 47, 116, 105, 100, 101, 112, 111, 108, 101, 108, 97, 119, 49, 48, 46, 70, 104, 105, 115, 116, 70, 108, 111, 97, 116, 115, 32, 116, 105, 100, 101, 112, 111, 108, 101, 47, 116, 105, 100, 101, 112, 111, 108, 101, 108, 97, 119, 49, 48, 46, 70, 104, 105, 115, 116, 77, 97, 107, 101, 115, 32, 116, 105, 100, 101, 112, 111, 108, 101, 47, 116, 105, 100, 101, 112, 111, 108, 101, 108, 97, 119, 49, 48, 46, 70, 104, 105, 115, 116, 67, 97, 110, 111, 110, 32, 116, 105, 100, 101, 112, 111, 108, 101, 47, 116, 105, 100, 101, 112, 111, 108, 101, 108, 97, 119, 49, 48, 46, 70, 104, 105, 115, 116, 66, 97, 99, 107, 32, 116, 105, 100, 101, 112, 111, 108, 101, 47, 116, 105, 100, 101, 112, 111, 108, 101, 108, 97, 119, 49, 48, 46, 70, 104, 105, 115, 116, 70, 114, 111, 109]
theorem head_is : Try.prog.initOrder = String.ofList headSigns := by kernel_rfl
theorem head_signs : Try.prog.initOrder.toList = headSigns := by rw [head_is]; exact String.toList_ofList
theorem head_first : (behindMainWord (wordsSigns headSigns)).head? = some "cut".toList := by kernel_rfl
theorem head_words : ∃ r, behindMainWord (wordsSigns headSigns) = "cut".toList :: r := by have h := head_first; cases h2 : behindMainWord (wordsSigns headSigns) with | nil => rw [h2] at h; cases h | cons c r => rw [h2] at h; injection h with h; exact ⟨r, by rw [h]⟩
theorem strip_cut (r : List (List Char)) : stripLifts liftWords ("cut".toList :: r) = ([], "cut".toList :: r) := by kernel_rfl
theorem head_lifts : Try.prog.headLifts = [] := by obtain ⟨r, hr⟩ := head_words; unfold Program.headLifts; rw [head_signs, hr, strip_cut]; kernel_rfl
theorem head_doorFits : Try.prog.doorFits [] = true := by kernel_rfl
theorem head_laysLater : Try.prog.laysLater = false := by kernel_rfl
theorem head_bearsReflect : Try.prog.bearsReflect = false := by kernel_rfl
theorem mayEnter_of {P : Program} {L : List Char} {r : List (List Char)} (h1 : P.initOrder.toList = L) (h2 : behindMainWord (wordsSigns L) = "cut".toList :: r) (h3 : P.doorFits [] = true) (h4 : P.laysLater = false) (h5 : P.bearsReflect = false) : P.mayEnter = true := by unfold Program.mayEnter; rw [h1, h2]; simp only [strip_cut, h3, h4, h5]; kernel_rfl
theorem head_mayEnter : Try.prog.mayEnter = true := by obtain ⟨r, hr⟩ := head_words; exact mayEnter_of head_signs hr head_doorFits head_laysLater head_bearsReflect
theorem head_liftsFinal : Try.prog.liftsFinal = false := by obtain ⟨r, hr⟩ := head_words; unfold Program.liftsFinal; rw [head_signs, head_lifts, hr]; kernel_rfl
theorem make_of {P : Program} {L : List Char} {r : List (List Char)} (h1 : P.initOrder.toList = L) (h2 : behindMainWord (wordsSigns L) = "cut".toList :: r) : P.make = some .cut := by unfold Program.make; rw [h1, h2]; kernel_rfl
theorem head_make : Try.prog.make = some .cut := by obtain ⟨r, hr⟩ := head_words; exact make_of head_signs hr
theorem head_laidOut : laidOutB Try.prog = true := by kernel_rfl
theorem head_mapsRowed : mapsRowed Try.prog = true := by kernel_rfl
theorem head_stops : (Try.prog.stops == []) = true := by kernel_rfl
theorem head_stopKnobs : (Try.prog.stopKnobs == []) = true := by kernel_rfl
theorem head_plainKeys : Try.prog.plainKeys = true := by kernel_rfl
theorem head_stopsHeard : Try.prog.stopsHeard = true := by kernel_rfl
end Go.Proofs.Ytacgeafjilipdaa.P
namespace Go.Proofs.Ytacgeafjilipdaa.Pure
open Go.RowKit Go.Proofs.Ytacgeafjilipdaa.P Go.Proofs.YtacgeafjilipdaaW.PrintWords
theorem ResetInts : ∀ (x0 : S64) (x1 : S64), wf64 x0 → wf64 x1 → tidepolelaw11_ResetInts.f x0.f0 x0.f1 x0.f2 x0.f3 x0.f4 x0.f5 x0.f6 x0.f7 x0.f8 x1.f0 x1.f1 x1.f2 x1.f3 x1.f4 x1.f5 x1.f6 x1.f7 x1.f8 = some true := fun _ _ h0 h1 => if_pos ⟨wfI_of h0, wfI_of h1⟩
end Go.Proofs.Ytacgeafjilipdaa.Pure
namespace Go.Proofs.Ytacgeafjilipdaa.resetInts
open Go.ChangeShapes Go.WideShapes Go.ChangeAt Go.RowKit Go.Proofs.Ytacgeafjilipdaa.P Go.Proofs.YtacgeafjilipdaaW.PrintWords
set_option linter.unusedVariables false
theorem own : ownKnob Try.prog.godebug = none := by kernel_rfl
theorem laidOut : laidOutB Try.prog = true := by kernel_rfl
set_option maxRecDepth 100000 in
set_option maxHeartbeats 4000000 in
theorem lifted (os : Os) (started : os.Started) (H : Type) (enc : TypeId × Value → H) :
    ReturnsInHanded {} Try.checked os 8 .any (Rows.resetIntsSpec.pre6 enc Try.prog Try.f8 Rows.resetIntsRow.domain false) (Rows.resetIntsSpec.post enc Try.prog Try.f8 false true false false) := by
  refine returnsInHanded_of_change_sized (C := Try.checked) own started (by kernel_rfl) Try.func8
    (ChangeSpec.witness6 (enc := enc) (C := Try.checked) false ⟨#[], #[.agg #[.int .i64 0, .int .u64 0, .int .u64 0, .int .u64 0, .int .u64 0, .slice none 0 0, .slice none 0 0, .slice none 0 0, .slice none 0 0], .agg #[.int .i64 0, .int .u64 0, .int .u64 0, .int .u64 0, .int .u64 0, .slice none 0 0, .slice none 0 0, .slice none 0 0, .slice none 0 0]], []⟩ 8 (by kernel_rfl) (by kernel_rfl) (by kernel_rfl) (by kernel_rfl)) ?_
  intro W base args ds gs before hval0 hW hcnd hsz0 _
  have hval : ∀ (j : Nat) t v, Try.f8.params[j]? = some t → args[j]? = some v → Value.okWide Try.prog W .any base t v := hval0
  have hW' := hW
  obtain ⟨p, q, hA0, hV, rfl, hfz, hnd⟩ := hW
  have hA : DataW.TrodAll enc Try.prog W 0 (fun _ => true) true Try.f8.params.toList args.toList ds p := hA0
  rw [Try.params8] at hA hval
  obtain ⟨v0, vs0, d0, ds0, p0, q0, hargs, rfl, rfl, h0, r0⟩ := trodAll_cons hA
  obtain ⟨v1, vs1, d1, ds1, p1, q1, rfl, rfl, rfl, h1, r1⟩ := trodAll_cons r0
  obtain ⟨rfl, rfl, rfl⟩ := trodAll_nil r1
  obtain rfl : args = #[v0, v1] := by cases args; simp_all
  obtain ⟨rfl, rfl⟩ := trodVars_none hV
  have k0 := h0
  have lt0 : ∀ x ∈ p0, x.block < W.heap.size := by obtain ⟨m, hm⟩ := k0; exact DataW.trod_lt m _ _ _ hm
  obtain ⟨fu0, hf0⟩ := h0
  obtain ⟨x0, hK0, w0⟩ := opens64 enc W 0 _ true fu0 _ _ hf0
  obtain ⟨cs0, rfl, _⟩ := okWide_struct Try.underlying64 (hval 0 64 v0 rfl rfl)
  obtain ⟨A0_5, c0_5, A0_6, c0_6, A0_7, c0_7, A0_8, c0_8, he0, h0_5_l, hC0_5, h0_6_l, hC0_6, h0_7_l, hC0_7, h0_8_l, hC0_8⟩ := k64_open hK0
  obtain rfl : cs0 = #[.int .i64 x0.f0, .int .u64 x0.f1, .int .u64 x0.f2, .int .u64 x0.f3, .int .u64 x0.f4, .slice A0_5 x0.f5.length c0_5, .slice A0_6 x0.f6.length c0_6, .slice A0_7 x0.f7.length c0_7, .slice A0_8 x0.f8.length c0_8] := by
    have he : cs0.toList = _ := he0
    exact Array.toList_inj.1 he
  have k1 := h1
  have lt1 : ∀ x ∈ p1, x.block < W.heap.size := by obtain ⟨m, hm⟩ := k1; exact DataW.trod_lt m _ _ _ hm
  obtain ⟨fu1, hf1⟩ := h1
  obtain ⟨x1, hK1, w1⟩ := opens64 enc W 0 _ true fu1 _ _ hf1
  obtain ⟨cs1, rfl, _⟩ := okWide_struct Try.underlying64 (hval 1 64 v1 rfl rfl)
  obtain ⟨A1_5, c1_5, A1_6, c1_6, A1_7, c1_7, A1_8, c1_8, he1, h1_5_l, hC1_5, h1_6_l, hC1_6, h1_7_l, hC1_7, h1_8_l, hC1_8⟩ := k64_open hK1
  obtain rfl : cs1 = #[.int .i64 x1.f0, .int .u64 x1.f1, .int .u64 x1.f2, .int .u64 x1.f3, .int .u64 x1.f4, .slice A1_5 x1.f5.length c1_5, .slice A1_6 x1.f6.length c1_6, .slice A1_7 x1.f7.length c1_7, .slice A1_8 x1.f8.length c1_8] := by
    have he : cs1.toList = _ := he1
    exact Array.toList_inj.1 he
  clear hA0 hval0 hsz0
  obtain hk := Pure.ResetInts x0 x1 w0 w1
  refine (P.tidepolelaw11_ResetInts.calls x0.f0 x0.f1 x0.f2 x0.f3 x0.f4 A0_5 c0_5 x0.f5 A0_6 c0_6 x0.f6 A0_7 c0_7 x0.f7 A0_8 c0_8 x0.f8 x1.f0 x1.f1 x1.f2 x1.f3 x1.f4 A1_5 c1_5 x1.f5 A1_6 c1_6 x1.f6 A1_7 c1_7 x1.f7 A1_8 c1_8 x1.f8 true W hC0_5 h0_5_l hC0_6 h0_6_l hC0_7 h0_7_l hC0_8 h0_8_l hC1_5 h1_5_l hC1_6 h1_6_l hC1_7 h1_7_l hC1_8 h1_8_l hk).mono fun e W' ⟨he, bel⟩ => ?_
  subst he
  exact ⟨_, rfl, _, _, _, [], _, [], hW', trodAll_mk1 (shut_bool Try.underlying4 _), (trodAll_cons_mk (Below.trod laidOut (by kernel_rfl) (of_decide_eq_true (by kernel_rfl)) k0 bel lt0) (trodAll_cons_mk (Below.trod laidOut (by kernel_rfl) (of_decide_eq_true (by kernel_rfl)) k1 bel lt1) trodAll_mk0)), rfl, bel.frame _, fun h => by cases h⟩
theorem cf0 : (Rows.resetIntsRow.wf (OpenSpec.ofChange Rows.resetIntsSpec)) = true := by kernel_rfl
theorem cf1 : (laidOutB Try.prog) = true := P.head_laidOut
theorem cf2 : (mapsRowed Try.prog) = true := P.head_mapsRowed
theorem cf3 : (Try.f8.params.all (Try.prog.readableRec ·)) = true := by kernel_rfl
theorem cf4 : (namedTie Try.prog Rows.resetIntsRow.named Rows.resetIntsSpec.vars) = true := by kernel_rfl
theorem cf5 : ((Rows.resetIntsRow.stops == [])) = true := by kernel_rfl
theorem cf6 : ((Try.prog.stops == [])) = true := P.head_stops
theorem cf7 : ((Rows.resetIntsRow.knobs == [])) = true := by kernel_rfl
theorem cf8 : ((Try.prog.stopKnobs == [])) = true := P.head_stopKnobs
theorem cf9 : ((Rows.resetIntsRow.inPlace == Try.prog.inPlace 8)) = true := by kernel_rfl
theorem cf10 : ((Rows.resetIntsRow.unfollowed == Try.prog.unfollowed 8)) = true := by kernel_rfl
theorem cf11 : ((Rows.resetIntsRow.recurses == Try.prog.recurses 8)) = true := by kernel_rfl
theorem cf12 : ((Rows.resetIntsRow.named == Try.prog.varsNamed 8)) = true := by kernel_rfl
theorem cf13 : ((Rows.resetIntsRow.maps == (Try.f8.params.toList ++ Rows.resetIntsSpec.plain.varTypes Try.prog).any (Try.prog.mapsRec ·))) = true := by kernel_rfl
theorem cf14 : ((Rows.resetIntsRow.ifaces == (Try.f8.params.toList ++ Rows.resetIntsSpec.plain.varTypes Try.prog).any (Try.prog.ifacesRec ·))) = true := by kernel_rfl
theorem cf15 : ((Rows.resetIntsRow.mapsOut == Try.prog.mapsAmong Try.f8.resultTypes.toList)) = true := by kernel_rfl
theorem cf16 : ((Rows.resetIntsRow.loops == (Try.f8.params.toList ++ Rows.resetIntsSpec.plain.varTypes Try.prog).any (Try.prog.loopsFrom ·))) = true := by kernel_rfl
theorem cf17 : ((Rows.resetIntsRow.wideKeys == (Try.f8.params.toList ++ Rows.resetIntsSpec.plain.varTypes Try.prog ++ Try.f8.resultTypes.toList).any (Try.prog.wideKeysFrom ·))) = true := by kernel_rfl
theorem cf18 : (Rows.resetIntsSpec.vars.all (Try.prog.varReadable ·)) = true := by kernel_rfl
theorem cf19 : (Try.f8.resultTypes.all (fun t => Try.prog.readableRec t && decide (t < Try.prog.types.size))) = true := by kernel_rfl
theorem cf20 : ((Rows.resetIntsRow.ifacesOut == Try.f8.resultTypes.toList.any (Try.prog.ifacesRec ·))) = true := by kernel_rfl
theorem cf21 : ((Rows.resetIntsRow.loopsOut == Try.f8.resultTypes.toList.any (Try.prog.loopsFrom ·))) = true := by kernel_rfl
theorem cf22 : ((Rows.resetIntsRow.plainKeys == Try.prog.plainKeys)) = true := by rw [P.head_plainKeys]; kernel_rfl
theorem cf23 : (Rows.resetIntsRow.shortTexts.isNone) = true := by kernel_rfl
theorem cf24 : (Try.prog.stopsHeard) = true := P.head_stopsHeard
theorem cf25 : (Try.prog.mayEnter) = true := P.head_mayEnter
theorem cf26 : ((Rows.resetIntsRow.lifted == Try.prog.liftsFinal)) = true := by rw [P.head_liftsFinal]; kernel_rfl
theorem cf27 : ((Try.prog.make == some Rows.resetIntsRow.make)) = true := by rw [P.head_make]; kernel_rfl
theorem cf28 : ((Rows.resetIntsRow.kinds == (if Rows.resetIntsRow.domain.isEmpty then [] else Try.f8.params.toList.map fun t => match Try.prog.underlying t with | some (.int k) => some k | _ => none))) = true := by kernel_rfl
theorem cf29 : ((Rows.resetIntsRow.pinned == Rows.resetIntsRow.pinnedBy)) = true := by kernel_rfl
theorem cf30 : ((Rows.resetIntsRow.veiled == (Try.f8.params.toList ++ Rows.resetIntsSpec.plain.varTypes Try.prog ++ Try.f8.resultTypes.toList).any (Try.prog.veiledRec ·))) = true := by kernel_rfl
theorem cf31 : (Rows.resetIntsRow.veiledFits Try.prog Try.f8.params.toList (Try.f8.params.toList ++ Rows.resetIntsSpec.plain.varTypes Try.prog ++ Try.f8.resultTypes.toList)) = true := by kernel_rfl
theorem band_mk {a b : Bool} (h : a = true) (k : b = true) : (a && b) = true := by rw [h, k]; rfl
theorem closed : joinedFacts Try.prog 8 Try.f8 Rows.resetIntsSpec Rows.resetIntsRow = true := by unfold joinedFacts; exact (band_mk (band_mk (band_mk (band_mk (band_mk (band_mk (band_mk (band_mk (band_mk (band_mk (band_mk (band_mk (band_mk (band_mk (band_mk (band_mk (band_mk (band_mk (band_mk (band_mk (band_mk (band_mk (band_mk (band_mk (band_mk (band_mk (band_mk (band_mk (band_mk (band_mk (band_mk cf0 cf1) cf2) cf3) cf4) cf5) cf6) cf7) cf8) cf9) cf10) cf11) cf12) cf13) cf14) cf15) cf16) cf17) cf18) cf19) cf20) cf21) cf22) cf23) cf24) cf25) cf26) cf27) (by kernel_rfl)) cf29) cf30) cf31)
theorem over : Rows.resetIntsRow.holds Try.pinned (OpenSpec.ofChange Rows.resetIntsSpec) :=
  OpenClaim.holds_of_wide 8 Try.f8 rfl rfl rfl rfl rfl rfl rfl ⟨rfl, rfl, rfl, rfl, rfl⟩ rfl rfl rfl rfl rfl (by kernel_rfl) Try.func8 closed
    (of_decide_eq_true (by kernel_rfl)) (by unfold Func.isWrapper; first | (rw [if_pos (by decide +kernel)]; kernel_rfl) | (rw [if_neg (by decide +kernel)]; exact ⟨rfl, rfl⟩))
    (fun os started H enc _ => lifted os started H enc)
theorem proved : Rows.ResetIntsSaid := over
#print axioms proved
end Go.Proofs.Ytacgeafjilipdaa.resetInts
namespace Go.Proofs.Ytacgeafjilipdaa
theorem resetInts_holds : Rows.ResetIntsSaid := resetInts.proved
end Go.Proofs.Ytacgeafjilipdaa
