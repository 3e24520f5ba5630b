/- ScaleKeeps: the part that this text bears of the proof that the statement answers true for every input. No condition. -/
import Derived.Test.YtgkplhdcafbfbaaProg
import Derived.Below
import Derived.Deep.Draws
import Derived.Deep.AppendLies
import Derived.Maps.AppendAt
import Derived.OwnWalk
import Derived.Laws.BytesArg
import Derived.Laws.MakeOwn
import Derived.Laws.OwnMore
import Derived.Deep.OwnRows
import Derived.Tactics
import Derived.Lib.ConvBytes
import Derived.Laws.Slices
import Derived.WalkKit
import Derived.KernelRfl
import Derived.RowKit3
import Derived.Deep.LoopGhost
import Derived.Deep.QuietTactic
import Derived.BigQuiet
import Derived.WideLaws
import Derived.Deep.DeepCutAuto
import Derived.Deep.CutBlock
import Derived.Deep.RegionHeld3
import Derived.Laws.Rows
import Derived.Lib.AppendStr
import Derived.ArgAppend
import Derived.Laws.IdiomCopy
import Derived.OrdersHeld
import Derived.Laws.BitsLemmas
import Derived.RowKit
import Derived.Deep.Slices
import Derived.ChangeArms
import Derived.Shelf.Abstract
import Derived.WalkSpells
import Derived.RangeFuncNested
import Derived.RangeFuncBound
import Derived.RangeFuncCalls
import Derived.RangeFuncLeaves
import Derived.RangeFuncBox
import Derived.OwnWalkIn
import Derived.TacticsInMore
import Derived.LoopNIn
import Derived.LoopIn
import Derived.Laws.Externs
import Derived.Shelf.Spec.BitsCarry
import Derived.RegionIn
import Derived.Sort.QuietTacIn
import Derived.Deep.RegionWith
import Derived.Laws.BitsAllLaws
import Derived.Outline
import Derived.Laws.Tables
import Derived.Deep.WholeRow
import Derived.Laws.CopyOwn
import Derived.Laws.ResultCell
import Derived.ProofKit
import Derived.JoinedOf
import Derived.OpenShut
import Derived.ShutString
import Derived.ChangeOld
import Derived.SizedLaws
import Derived.Test.YtgkplhdcafbfbaaQScaleTwiceWWords
import Derived.Test.YtgkplhdcafbfbaaQScaleTwiceWLast
import Derived.Test.YtgkplhdcafbfbaaQScaleTwiceWTab
import Derived.Test.YtgkplhdcafbfbaaQScaleTwiceWFour
import Derived.Test.YtgkplhdcafbfbaaQScaleTwiceWQPut
import Derived.Test.YtgkplhdcafbfbaaQScaleTwiceWApart
import Derived.Test.YtgkplhdcafbfbaaQScaleTwiceWArr
import Derived.Test.YtgkplhdcafbfbaaQScaleTwiceWZeros
import Derived.Test.YtgkplhdcafbfbaaQScaleTwiceWFoot
import Derived.Test.YtgkplhdcafbfbaaQScaleTwiceWKept
import Derived.Test.YtgkplhdcafbfbaaQScaleTwiceWShare
import Derived.Test.YtgkplhdcafbfbaaQScaleTwiceWN
import Derived.Test.YtgkplhdcafbfbaaQScaleTwiceWFootNe
import Derived.Test.YtgkplhdcafbfbaaQScaleTwiceWAt
import Derived.Test.YtgkplhdcafbfbaaQScaleTwiceWEqStruct
import Derived.Test.YtgkplhdcafbfbaaQScaleTwiceWRepsOne
import Derived.Test.YtgkplhdcafbfbaaQScaleTwiceWInv
import Derived.Test.YtgkplhdcafbfbaaQScaleTwiceWInvWords
import Derived.Test.YtgkplhdcafbfbaaQScaleTwiceWGuard
import Derived.Test.YtgkplhdcafbfbaaQScaleTwiceWNEv
import Derived.Test.YtgkplhdcafbfbaaQScaleTwiceWMore
import Derived.Test.YtgkplhdcafbfbaaRows
import Derived.Test.YtgkplhdcafbfbaaQScaleTwice0
import Derived.Test.YtgkplhdcafbfbaaQScaleTwice1
import Derived.Test.YtgkplhdcafbfbaaQScaleTwice2
import Derived.Test.YtgkplhdcafbfbaaQScaleTwice3
import Derived.Test.YtgkplhdcafbfbaaQScaleTwice4
set_option linter.unusedVariables false
set_option linter.unusedSimpArgs false
namespace Go.Proofs.Ytgkplhdcafbfbaa.P
open Go.RowKit Go.Shelf Go.Proofs.YtgkplhdcafbfbaaW.PrintWords Go.Proofs.YtgkplhdcafbfbaaW.PrintLast Go.Proofs.YtgkplhdcafbfbaaW.PrintMore
theorem u64_w (x : Int) : IntKind.u64.wrap x = x % 18446744073709551616 := by simp [IntKind.wrap, IntKind.signed, IntKind.bits]
theorem scaleKeeps_plain {a x : Hi} {tt : Int} (hw : wfH a) (h7 : a.f7.length ≤ 1024) (h8 : a.f8.length ≤ 1024) (hx : scaleR a tt = (x, 0)) :
    wfH x ∧ x.f0 = tt ∧ x.f1 = a.f1 ∧ x.f2 = a.f2 ∧ x.f3 = a.f3 ∧ x.f4 = a.f4 ∧ ∀ k : Nat, k < 2 → ∃ l m : List Pr, pairsR a (k : Int) = (l, 0) ∧ pairsR x (k : Int) = (m, 0) ∧ m.length ≤ l.length ∧ l.length ≤ 4096 ∧ sumV m = sumV l := by
  obtain ⟨hc, t0, t1, p, n, hp, hn⟩ := ints_ok (h := a) (tt := tt) (by rw [hx])
  obtain ⟨r1, r2, b1, b2, l1, l2, hf, hd⟩ := sides_right hw hc
  obtain ⟨x', ex, cx, ox, ⟨sx0, sx1, sx2, sx3, sx4⟩, wx, -⟩ := low_right hw hc h7 h8 t0 t1 hp hn
  rw [hx] at ex
  injection ex with ex _
  subst ex
  simp only [lowH] at sx0 sx1 sx2 sx3 sx4
  obtain ⟨w1, w2, w3, w4⟩ := widenW_ok r1 hp
  obtain ⟨v1, v2, v3, v4⟩ := widenW_ok r2 hn
  have lp : (some0 p).length ≤ p.length := List.length_filter_le _ _
  have ln : (some0 n).length ≤ n.length := List.length_filter_le _ _
  have q1 := r1.len
  have q2 := r2.len
  refine ⟨wx, sx0, sx1, sx2, sx3, sx4, fun k hk => ?_⟩
  have h01 : k = 0 ∨ k = 1 := by omega
  rcases h01 with rfl | rfl
  · refine ⟨(openR a).1, some0 p, ?_, ?_, by omega, by omega, (sumV_some0 p).trans w3⟩
    · unfold pairsR; rw [if_pos (by rfl)]; exact congrArg _ hc
    · unfold pairsR; rw [if_pos (by rfl), ox]
  · refine ⟨(openR a).2.1, some0 n, ?_, ?_, by omega, by omega, (sumV_some0 n).trans v3⟩
    · unfold pairsR; rw [if_neg (by decide), if_pos (by rfl)]; exact congrArg _ hc
    · unfold pairsR; rw [if_neg (by decide), if_pos (by rfl), ox]
set_option maxHeartbeats 64000000 in
set_option maxRecDepth 100000 in
theorem scaleKeeps_c (a : Hi) (tt : Int) (hwa : wfI a) (htt : i64 tt) (w : World) (u x1 : Value) (hx1 : x1 = .int .i64 tt) (hua : HI w u a) : Calls Try.prog 6 #[u, x1] w fun e w' => e = .returned (.bool true) ∧ Below w.heap.size w w' := by
  subst hx1
  have hud := Try.underlying30
  have hup := Try.underlying62
  obtain ⟨b1, hb1, cs⟩ := small25_c a hwa.2.2.2.2.2.1 hwa.2.2.2.2.2.2.1
  have CS := Aside0.mk cs
  clear cs
  cases b1 with
  | false =>
    clear hb1
    obtain ⟨A5a, c5a, A6a, c6a, A7a, c7a, A8a, c8a, e, -⟩ := hua.open_
    subst e
    have B := Aside0.mk (below_alloc (Below.refl w.heap.size w) (.cells #[.int .i64 a.f0, .int .u64 a.f1, .int .u64 a.f2, .int .u64 a.f3, .int .u64 a.f4, .slice A5a a.f5.length c5a, .slice A6a a.f6.length c6a, .slice A7a a.f7.length c7a, .slice A8a a.f8.length c8a] 30))
    have X := Aside0.mk (Blk.new w #[.int .i64 a.f0, .int .u64 a.f1, .int .u64 a.f2, .int .u64 a.f3, .int .u64 a.f4, .slice A5a a.f5.length c5a, .slice A6a a.f6.length c6a, .slice A7a a.f7.length c7a, .slice A8a a.f8.length c8a] 30)
    have hx := fun i => X.out.cell i
    have HA := Aside0.mk (hua.below B.out)
    clear hua
    go_enter Try.func6, Try.ntmps6
    go_wp2_with (first | (go_at_call 14; (with_reducible refine (CS.out _ _ HA.out).mono ?_); rintro e W1 ⟨rfl, hb⟩; replace B := Aside0.mk (below_then B.out B.out.size hb); replace HA := Aside0.mk (HA.out.below hb); replace X := Aside0.mk (X.out.below hb); replace hx := fun i => X.out.cell i; clear  hb) | (go_at_call 13; (with_reducible refine (awake25_c _).mono ?_); rintro e W2 ⟨rfl, hb⟩; replace B := Aside0.mk (below_then B.out B.out.size hb); replace HA := Aside0.mk (HA.out.below hb); replace X := Aside0.mk (X.out.below hb); replace hx := fun i => X.out.cell i; clear  hb))
    go_ret
    exact ⟨rfl, B.out⟩
  | true =>
  obtain ⟨n5, n6, n7, n8⟩ := hb1 rfl
  have hWa := wfH_of hwa (by omega) (by omega)
  obtain ⟨⟨x, e⟩, hx⟩ : ∃ r, scaleR a tt = r := ⟨_, rfl⟩
  have n1 := scale25_c a x e tt hWa htt hx
  have N1 := Aside0.mk n1
  by_cases c1 : e = 0
  rotate_left
  · have d1 : (e != 0) = true := bne_iff_ne.2 c1
    clear c1 n1 hx n5 n6 n7 n8 hb1 hwa htt hWa
    obtain ⟨A5a, c5a, A6a, c6a, A7a, c7a, A8a, c8a, e, -⟩ := hua.open_
    subst e
    have B := Aside0.mk (below_alloc (Below.refl w.heap.size w) (.cells #[.int .i64 a.f0, .int .u64 a.f1, .int .u64 a.f2, .int .u64 a.f3, .int .u64 a.f4, .slice A5a a.f5.length c5a, .slice A6a a.f6.length c6a, .slice A7a a.f7.length c7a, .slice A8a a.f8.length c8a] 30))
    have X := Aside0.mk (Blk.new w #[.int .i64 a.f0, .int .u64 a.f1, .int .u64 a.f2, .int .u64 a.f3, .int .u64 a.f4, .slice A5a a.f5.length c5a, .slice A6a a.f6.length c6a, .slice A7a a.f7.length c7a, .slice A8a a.f8.length c8a] 30)
    have hx := fun i => X.out.cell i
    have HA := Aside0.mk (hua.below B.out)
    clear hua
    go_enter Try.func6, Try.ntmps6
    go_wp2_with (first | (go_at_call 14; (with_reducible refine (CS.out _ _ HA.out).mono ?_); rintro e W1 ⟨rfl, hb⟩; replace B := Aside0.mk (below_then B.out B.out.size hb); replace HA := Aside0.mk (HA.out.below hb); replace X := Aside0.mk (X.out.below hb); replace hx := fun i => X.out.cell i; clear  hb) | (go_at_call 15; (with_reducible refine (N1.out _ _ HA.out).mono ?_); rintro e W2 ⟨D5x, g5x, D6x, g6x, D7x, g7x, D8x, g8x, rfl, hh, hb⟩; replace B := Aside0.mk (below_then B.out B.out.size hb); replace HA := Aside0.mk (HA.out.below hb); replace X := Aside0.mk (X.out.below hb); replace hx := fun i => X.out.cell i; have HX := Aside0.mk hh; have hxa := fun i => (X.out.alloc (.cells #[.int .i64 x.f0, .int .u64 x.f1, .int .u64 x.f2, .int .u64 x.f3, .int .u64 x.f4, .slice D5x x.f5.length g5x, .slice D6x x.f6.length g6x, .slice D7x x.f7.length g7x, .slice D8x x.f8.length g8x] 30)).cell i; clear hh hb))
    (try clear hxa)
    have hal := below_alloc (Below.refl W2.heap.size W2) (.cells #[.int .i64 x.f0, .int .u64 x.f1, .int .u64 x.f2, .int .u64 x.f3, .int .u64 x.f4, .slice D5x x.f5.length g5x, .slice D6x x.f6.length g6x, .slice D7x x.f7.length g7x, .slice D8x x.f8.length g8x] 30)
    replace B := Aside0.mk (below_then B.out B.out.size hal)
    replace HA := Aside0.mk (HA.out.below hal)
    replace HX := Aside0.mk (HX.out.below hal)
    replace X := Aside0.mk (X.out.alloc (.cells #[.int .i64 x.f0, .int .u64 x.f1, .int .u64 x.f2, .int .u64 x.f3, .int .u64 x.f4, .slice D5x x.f5.length g5x, .slice D6x x.f6.length g6x, .slice D7x x.f7.length g7x, .slice D8x x.f8.length g8x] 30)); replace hx := fun i => X.out.cell i
    have P := Aside0.mk (Blk.new W2 #[.int .i64 x.f0, .int .u64 x.f1, .int .u64 x.f2, .int .u64 x.f3, .int .u64 x.f4, .slice D5x x.f5.length g5x, .slice D6x x.f6.length g6x, .slice D7x x.f7.length g7x, .slice D8x x.f8.length g8x] 30); have hp := fun i => P.out.cell i; clear hal
    go_wp2_with (first | (go_at_call 13; (with_reducible refine (awake25_c _).mono ?_); rintro e W3 ⟨rfl, hb⟩; replace B := Aside0.mk (below_then B.out B.out.size hb); replace HA := Aside0.mk (HA.out.below hb); replace HX := Aside0.mk (HX.out.below hb); replace X := Aside0.mk (X.out.below hb); replace hx := fun i => X.out.cell i; replace P := Aside0.mk (P.out.below hb); replace hp := fun i => P.out.cell i; clear  hb))
    go_ret
    exact ⟨rfl, B.out⟩
  subst c1
  obtain ⟨wx, s0, s1, s2, s3, s4, hsd⟩ := scaleKeeps_plain hWa (by omega) (by omega) hx
  have HSD := Aside0.mk hsd
  have HWA := Aside0.mk hWa
  have HWX := Aside0.mk wx
  have d0 : (x.f0 != tt) = false := by rw [s0]; exact bne_self_eq_false _
  have d1 : (x.f1 != a.f1) = false := by rw [s1]; exact bne_self_eq_false _
  have d2 : (x.f2 != a.f2) = false := by rw [s2]; exact bne_self_eq_false _
  have d3 : (x.f3 != a.f3) = false := by rw [s3]; exact bne_self_eq_false _
  have d4 : (x.f4 != a.f4) = false := by rw [s4]; exact bne_self_eq_false _
  clear n1 hx n5 n6 n7 n8 hb1 hwa htt hWa wx s0 s1 s2 s3 s4 hsd
  obtain ⟨A5a, c5a, A6a, c6a, A7a, c7a, A8a, c8a, e, -⟩ := hua.open_
  subst e
  have B := Aside0.mk (below_alloc (Below.refl w.heap.size w) (.cells #[.int .i64 a.f0, .int .u64 a.f1, .int .u64 a.f2, .int .u64 a.f3, .int .u64 a.f4, .slice A5a a.f5.length c5a, .slice A6a a.f6.length c6a, .slice A7a a.f7.length c7a, .slice A8a a.f8.length c8a] 30))
  have X := Aside0.mk (Blk.new w #[.int .i64 a.f0, .int .u64 a.f1, .int .u64 a.f2, .int .u64 a.f3, .int .u64 a.f4, .slice A5a a.f5.length c5a, .slice A6a a.f6.length c6a, .slice A7a a.f7.length c7a, .slice A8a a.f8.length c8a] 30)
  have hx := fun i => X.out.cell i
  have HA := Aside0.mk (hua.below B.out)
  clear hua
  go_enter Try.func6, Try.ntmps6
  go_wp2_with (first | (go_at_call 14; (with_reducible refine (CS.out _ _ HA.out).mono ?_); rintro e W1 ⟨rfl, hb⟩; replace B := Aside0.mk (below_then B.out B.out.size hb); replace HA := Aside0.mk (HA.out.below hb); replace X := Aside0.mk (X.out.below hb); replace hx := fun i => X.out.cell i; clear  hb) | (go_at_call 15; (with_reducible refine (N1.out _ _ HA.out).mono ?_); rintro e W2 ⟨D5x, g5x, D6x, g6x, D7x, g7x, D8x, g8x, rfl, hh, hb⟩; replace B := Aside0.mk (below_then B.out B.out.size hb); replace HA := Aside0.mk (HA.out.below hb); replace X := Aside0.mk (X.out.below hb); replace hx := fun i => X.out.cell i; have HX := Aside0.mk hh; have hxa := fun i => (X.out.alloc (.cells #[.int .i64 x.f0, .int .u64 x.f1, .int .u64 x.f2, .int .u64 x.f3, .int .u64 x.f4, .slice D5x x.f5.length g5x, .slice D6x x.f6.length g6x, .slice D7x x.f7.length g7x, .slice D8x x.f8.length g8x] 30)).cell i; clear hh hb))
  (try clear hxa)
  have hal := below_alloc (Below.refl W2.heap.size W2) (.cells #[.int .i64 x.f0, .int .u64 x.f1, .int .u64 x.f2, .int .u64 x.f3, .int .u64 x.f4, .slice D5x x.f5.length g5x, .slice D6x x.f6.length g6x, .slice D7x x.f7.length g7x, .slice D8x x.f8.length g8x] 30)
  replace B := Aside0.mk (below_then B.out B.out.size hal)
  replace HA := Aside0.mk (HA.out.below hal)
  replace HX := Aside0.mk (HX.out.below hal)
  replace X := Aside0.mk (X.out.alloc (.cells #[.int .i64 x.f0, .int .u64 x.f1, .int .u64 x.f2, .int .u64 x.f3, .int .u64 x.f4, .slice D5x x.f5.length g5x, .slice D6x x.f6.length g6x, .slice D7x x.f7.length g7x, .slice D8x x.f8.length g8x] 30)); replace hx := fun i => X.out.cell i
  have P := Aside0.mk (Blk.new W2 #[.int .i64 x.f0, .int .u64 x.f1, .int .u64 x.f2, .int .u64 x.f3, .int .u64 x.f4, .slice D5x x.f5.length g5x, .slice D6x x.f6.length g6x, .slice D7x x.f7.length g7x, .slice D8x x.f8.length g8x] 30); have hp := fun i => P.out.cell i; clear hal
  go_wp2_with fail
  clear hx hp
  generalize (W2.alloc (.cells #[.int .i64 x.f0, .int .u64 x.f1, .int .u64 x.f2, .int .u64 x.f3, .int .u64 x.f4, .slice D5x x.f5.length g5x, .slice D6x x.f6.length g6x, .slice D7x x.f7.length g7x, .slice D8x x.f8.length g8x] 30)) = W0 at *
  have hx := fun i => X.out.cell i
  have hp := fun i => P.out.cell i
  go_loopg [62] 2 (fun gg v62 wr => ∃ k : Nat, v62 = .int .i64 (k : Int) ∧ Aside0 (k + gg = 2) ∧ Aside0 (Below W0.heap.size W0 wr))
  case atStart => exact ⟨0, rfl, ⟨rfl⟩, ⟨Below.refl _ _⟩⟩
  case round =>
    obtain ⟨k, rfl, HK, HBk⟩ := hrel
    replace HA := Aside0.mk (HA.out.below HBk.out)
    replace HX := Aside0.mk (HX.out.below HBk.out)
    replace X := Aside0.mk (X.out.below HBk.out)
    replace P := Aside0.mk (P.out.below HBk.out)
    replace B := Aside0.mk (below_then B.out B.out.size HBk.out)
    clear hx hp
    have hx := fun i => X.out.cell i
    have hp := fun i => P.out.cell i
    by_cases hlt : k < 2
    · obtain ⟨ko, rfl⟩ : ∃ ko, gk = ko + 1 := ⟨gk - 1, by have := HK.out; omega⟩
      obtain ⟨l, m, hl, hm, hml, hll, hsum⟩ := HSD.out k hlt
      have pa := pairs_c a HWA.out (k : Int)
      have px := pairs_c x HWX.out (k : Int)
      rw [hl] at pa
      rw [hm] at px
      simp only at pa px
      have PA := Aside0.mk pa
      have PX := Aside0.mk px
      have LEN := Aside0.mk (And.intro hml hll)
      have SUM := Aside0.mk hsum
      have hlti : (k : Int) < 2 := by omega
      have hlen : decide (l.length < m.length) = false := decide_eq_false (by omega)
      have hks : wrap64 ((k : Int) + 1) = ((k + 1 : Nat) : Int) := by rw [wrap_succ (by omega)]
      clear pa px hl hm hml hll hsum hlt
      go_wp2_with (first | (go_at_call 26; (with_reducible refine (PA.out _ _ HA.out).mono ?_); rintro e W3 ⟨v0, rfl, ⟨A0, c0, rfl, hcc, hC⟩, hb⟩; replace B := Aside0.mk (below_then B.out B.out.size hb); replace HA := Aside0.mk (HA.out.below hb); replace HX := Aside0.mk (HX.out.below hb); replace X := Aside0.mk (X.out.below hb); replace hx := fun i => X.out.cell i; replace P := Aside0.mk (P.out.below hb); replace hp := fun i => P.out.cell i; have S0 := Aside0.mk (SI.of hC hcc); replace HBk := Aside0.mk (below_then HBk.out HBk.out.size hb); clear hcc hC PA; clear  hb) | (go_at_call 26; (with_reducible refine (PX.out _ _ HX.out).mono ?_); rintro e W4 ⟨v1, rfl, ⟨A1, c1, rfl, hcc, hC⟩, hb⟩; replace B := Aside0.mk (below_then B.out B.out.size hb); replace HA := Aside0.mk (HA.out.below hb); replace HX := Aside0.mk (HX.out.below hb); replace S0 := Aside0.mk (S0.out.below hb); replace X := Aside0.mk (X.out.below hb); replace hx := fun i => X.out.cell i; replace P := Aside0.mk (P.out.below hb); replace hp := fun i => P.out.cell i; have S1 := Aside0.mk (SI.of hC hcc); replace HBk := Aside0.mk (below_then HBk.out HBk.out.size hb); clear hcc hC PX; clear  hb))
      go_loopg [12, 92] l.length (fun gj v12 v92 wj => ∃ (j : Nat) (acc : Int), v12 = .int .u64 acc ∧ v92 = .int .i64 (j : Int) ∧ Aside0 (j + gj = l.length) ∧ Aside0 (Below W4.heap.size W4 wj) ∧ Aside0 (0 ≤ acc ∧ acc < 18446744073709551616 ∧ acc = (sumV (l.take j)) % 18446744073709551616))
      case atStart => exact ⟨0, 0, rfl, rfl, ⟨by omega⟩, ⟨Below.refl _ _⟩, ⟨by simp [sumV]⟩⟩
      case round =>
        obtain ⟨j, acc, rfl, rfl, HJ, HBj, HSj⟩ := hrel
        by_cases hltj : j < l.length
        · have hltji : (j : Int) < (l.length : Int) := by omega
          have hj0 : (0 : Int) ≤ (j : Int) := by omega
          obtain ⟨k1, rfl⟩ : ∃ k1, gk = k1 + 1 := ⟨gk - 1, by have := HJ.out; omega⟩
          obtain ⟨A', c', e', -, hLr⟩ := S0.out.below HBj.out
          obtain ⟨e1, e2, e3⟩ := Value.slice.inj e'
          subst e1
          obtain ⟨ad, ea, hx0, hx1⟩ := at_T62 hLr (j : Int) hj0 hltji
          subst ea
          rw [rdPr_at hltj, Int.toNat_natCast] at hx0 hx1
          have HV := Aside0.mk (sumV_take hltj)
          generalize l[j] = y at hx0 hx1 HV
          have HLL := Aside0.mk (show j < 4398046511104 by have := HJ.out; have := LEN.out; omega)
          have hjs : wrap64 ((j : Int) + 1) = ((j + 1 : Nat) : Int) := by have := HLL.out; rw [wrap_succ (by omega)]
          clear e' e2 e3 hLr hltj
          go_wp2
          go_roundg k1
          case measure => omega
          case rel =>
            have h1 := HSj.out
            have h2 := HV.out
            refine ⟨j + 1, _, rfl, (by first | rw [hjs] | rfl), ⟨by have := HJ.out; omega⟩, ⟨below_alloc HBj.out _⟩, ⟨?_⟩⟩
            simp only [u64_w] at *
            omega
        · have hltji : ¬ (j : Int) < (l.length : Int) := by omega
          obtain ⟨acc1, hacc⟩ : ∃ z, z = acc := ⟨_, rfl⟩
          have HS1 := Aside0.mk (show 0 ≤ acc ∧ acc < 18446744073709551616 ∧ acc = sumV l % 18446744073709551616 by
            have h1 := HSj.out
            rw [List.take_of_length_le (by omega)] at h1
            exact h1)
          clear hltj hacc
          go_wp2
          go_loopg [12, 104] m.length (fun gj v12 v104 wj => ∃ (j : Nat) (acc : Int), v12 = .int .u64 acc ∧ v104 = .int .i64 (j : Int) ∧ Aside0 (j + gj = m.length) ∧ Aside0 (Below W4.heap.size W4 wj) ∧ Aside0 (0 ≤ acc ∧ acc < 18446744073709551616 ∧ acc = (sumV l - sumV (m.take j)) % 18446744073709551616))
          case atStart => exact ⟨0, _, rfl, rfl, ⟨by omega⟩, ⟨HBj.out⟩, ⟨by have := HS1.out; simp [sumV] at this ⊢; omega⟩⟩
          case round =>
            obtain ⟨j, acc, rfl, rfl, HJ, HBj, HSj⟩ := hrel
            by_cases hltj : j < m.length
            · have hltji : (j : Int) < (m.length : Int) := by omega
              have hj0 : (0 : Int) ≤ (j : Int) := by omega
              obtain ⟨k1, rfl⟩ : ∃ k1, gk = k1 + 1 := ⟨gk - 1, by have := HJ.out; omega⟩
              obtain ⟨A', c', e', -, hLr⟩ := S1.out.below HBj.out
              obtain ⟨e1, e2, e3⟩ := Value.slice.inj e'
              subst e1
              obtain ⟨ad, ea, hx0, hx1⟩ := at_T62 hLr (j : Int) hj0 hltji
              subst ea
              rw [rdPr_at hltj, Int.toNat_natCast] at hx0 hx1
              have HV := Aside0.mk (sumV_take hltj)
              generalize m[j] = y at hx0 hx1 HV
              have HLL := Aside0.mk (show j < 4398046511104 by have := HJ.out; have := LEN.out; omega)
              have hjs : wrap64 ((j : Int) + 1) = ((j + 1 : Nat) : Int) := by have := HLL.out; rw [wrap_succ (by omega)]
              clear e' e2 e3 hLr hltj
              go_wp2
              go_roundg k1
              case measure => omega
              case rel =>
                have h1 := HSj.out
                have h2 := HV.out
                refine ⟨j + 1, _, rfl, (by first | rw [hjs] | rfl), ⟨by have := HJ.out; omega⟩, ⟨below_alloc HBj.out _⟩, ⟨?_⟩⟩
                simp only [u64_w] at *
                omega
            · have hltji2 : ¬ (j : Int) < (m.length : Int) := by omega
              have hz : acc = 0 := by
                have h1 := HSj.out
                have h2 := SUM.out
                rw [List.take_of_length_le (by omega), h2] at h1
                omega
              subst hz
              clear hltj
              go_wp2
              go_roundg ko
              case measure => omega
              case rel => exact ⟨k + 1, (by first | rw [hks] | rfl), ⟨by have := HK.out; omega⟩, ⟨below_then HBk.out HBk.out.size HBj.out⟩⟩
    · have hlti : ¬ (k : Int) < 2 := by omega
      clear hlt
      go_wp2_with (first | (go_at_call 13; (with_reducible refine (awake25_c _).mono ?_); rintro e W1 ⟨rfl, hb⟩; replace B := Aside0.mk (below_then B.out B.out.size hb); replace HA := Aside0.mk (HA.out.below hb); replace HX := Aside0.mk (HX.out.below hb); replace X := Aside0.mk (X.out.below hb); replace hx := fun i => X.out.cell i; replace P := Aside0.mk (P.out.below hb); replace hp := fun i => P.out.cell i; clear  hb))
      go_ret
      exact ⟨rfl, B.out⟩
def tidepolelaw25_ScaleKeeps.f (s0 z0 zc0 ct0 sm0 : Int) (l0_5 l0_6 : List Sp) (l0_7 l0_8 : List Int) (tt : Int) : Option Bool := if wfI ⟨s0, z0, zc0, ct0, sm0, l0_5, l0_6, l0_7, l0_8⟩ ∧ i64 tt then some true else none
theorem tidepolelaw25_ScaleKeeps.calls (s0 : Int) (z0 : Int) (zc0 : Int) (ct0 : Int) (sm0 : Int) (A0_5 : Option Addr) (c0_5 : Nat) (l0_5 : List Sp) (A0_6 : Option Addr) (c0_6 : Nat) (l0_6 : List Sp) (A0_7 : Option Addr) (c0_7 : Nat) (l0_7 : List Int) (A0_8 : Option Addr) (c0_8 : Nat) (l0_8 : List Int) (tt : Int) (r : Bool) (w : World) (hr0_5 : Kd.C kSp w A0_5 l0_5.length l0_5) (hc0_5 : l0_5.length ≤ c0_5) (hr0_6 : Kd.C kSp w A0_6 l0_6.length l0_6) (hc0_6 : l0_6.length ≤ c0_6) (hr0_7 : Kd.C (Kd.int .i64) w A0_7 l0_7.length l0_7) (hc0_7 : l0_7.length ≤ c0_7) (hr0_8 : Kd.C (Kd.int .i64) w A0_8 l0_8.length l0_8) (hc0_8 : l0_8.length ≤ c0_8) (h : tidepolelaw25_ScaleKeeps.f s0 z0 zc0 ct0 sm0 l0_5 l0_6 l0_7 l0_8 tt = some r) :
    Calls Try.prog 6 #[.agg #[.int .i64 s0, .int .u64 z0, .int .u64 zc0, .int .u64 ct0, .int .u64 sm0, .slice A0_5 l0_5.length c0_5, .slice A0_6 l0_6.length c0_6, .slice A0_7 l0_7.length c0_7, .slice A0_8 l0_8.length c0_8], .int .i64 tt] w fun e w' => e = .returned (.bool r) ∧ Below w.heap.size w w' := by
  obtain ⟨⟨q0, q1⟩, rfl⟩ := of_ite_some h
  exact scaleKeeps_c _ _ q0 q1 w _ _ rfl (HI.mk (h := ⟨s0, z0, zc0, ct0, sm0, l0_5, l0_6, l0_7, l0_8⟩) (.of hr0_5 hc0_5) (.of hr0_6 hc0_6) (.of hr0_7 hc0_7) (.of hr0_8 hc0_8))
end Go.Proofs.Ytgkplhdcafbfbaa.P
namespace Go.Proofs.Ytgkplhdcafbfbaa.Pure
open Go.RowKit Go.Proofs.Ytgkplhdcafbfbaa.P Go.Proofs.YtgkplhdcafbfbaaW.PrintWords
theorem ScaleKeeps : ∀ (x0 : S30) (a1 : Int), wf30 x0 → (inI .i64) a1 → tidepolelaw25_ScaleKeeps.f x0.f0 x0.f1 x0.f2 x0.f3 x0.f4 x0.f5 x0.f6 x0.f7 x0.f8 a1 = some true := fun _ _ h0 h1 => if_pos ⟨wfI_of h0, i64_of h1⟩
end Go.Proofs.Ytgkplhdcafbfbaa.Pure
namespace Go.Proofs.Ytgkplhdcafbfbaa.scaleKeeps
open Go.ChangeShapes Go.WideShapes Go.ChangeAt Go.RowKit Go.Proofs.Ytgkplhdcafbfbaa.P Go.Proofs.YtgkplhdcafbfbaaW.PrintWords
theorem own : ownKnob Try.prog.godebug = none := by kernel_rfl
theorem laidOut : laidOutB Try.prog = true := by kernel_rfl
set_option maxRecDepth 100000 in
set_option maxHeartbeats 4000000 in
theorem lifted (os : Os) (started : os.Started) (H : Type) (enc : TypeId × Value → H) :
    ReturnsInHanded {} Try.checked os 6 .any (Rows.scaleKeepsSpec.pre6 enc Try.prog Try.f6 Rows.scaleKeepsRow.domain false) (Rows.scaleKeepsSpec.post enc Try.prog Try.f6 false true false false) := by
  refine returnsInHanded_of_change_sized (C := Try.checked) own started (by kernel_rfl) Try.func6
    (ChangeSpec.witness6 (enc := enc) (C := Try.checked) false ⟨#[], #[.agg #[.int .i64 0, .int .u64 0, .int .u64 0, .int .u64 0, .int .u64 0, .slice none 0 0, .slice none 0 0, .slice none 0 0, .slice none 0 0], .int .i64 0], []⟩ 8 (by kernel_rfl) (by kernel_rfl) (by kernel_rfl) (by kernel_rfl)) ?_
  intro W base args ds gs before hval0 hW hcnd hsz0 _
  have hval : ∀ (j : Nat) t v, Try.f6.params[j]? = some t → args[j]? = some v → Value.okWide Try.prog W .any base t v := hval0
  have hW' := hW
  obtain ⟨p, q, hA0, hV, rfl, hfz, hnd⟩ := hW
  have hA : DataW.TrodAll enc Try.prog W 0 (fun _ => true) true Try.f6.params.toList args.toList ds p := hA0
  rw [Try.params6] at hA hval
  obtain ⟨v0, vs0, d0, ds0, p0, q0, hargs, rfl, rfl, h0, r0⟩ := trodAll_cons hA
  obtain ⟨v1, vs1, d1, ds1, p1, q1, rfl, rfl, rfl, h1, r1⟩ := trodAll_cons r0
  obtain ⟨rfl, rfl, rfl⟩ := trodAll_nil r1
  obtain rfl : args = #[v0, v1] := by cases args; simp_all
  obtain ⟨rfl, rfl⟩ := trodVars_none hV
  have k0 := h0
  have lt0 : ∀ x ∈ p0, x.block < W.heap.size := by obtain ⟨m, hm⟩ := k0; exact DataW.trod_lt m _ _ _ hm
  obtain ⟨fu0, hf0⟩ := h0
  obtain ⟨x0, hK0, w0⟩ := opens30 enc W 0 _ true fu0 _ _ hf0
  obtain ⟨cs0, rfl, _⟩ := okWide_struct Try.underlying30 (hval 0 30 v0 rfl rfl)
  obtain ⟨A0_5, c0_5, A0_6, c0_6, A0_7, c0_7, A0_8, c0_8, he0, h0_5_l, hC0_5, h0_6_l, hC0_6, h0_7_l, hC0_7, h0_8_l, hC0_8⟩ := k30_open hK0
  obtain rfl : cs0 = #[.int .i64 x0.f0, .int .u64 x0.f1, .int .u64 x0.f2, .int .u64 x0.f3, .int .u64 x0.f4, .slice A0_5 x0.f5.length c0_5, .slice A0_6 x0.f6.length c0_6, .slice A0_7 x0.f7.length c0_7, .slice A0_8 x0.f8.length c0_8] := by
    have he : cs0.toList = _ := he0
    exact Array.toList_inj.1 he
  obtain ⟨a1, rfl, rfl, rfl, w1⟩ := open_int Try.underlying3 (hval 1 3 v1 rfl rfl) h1
  clear hA0 hval0 hsz0
  obtain hk := Pure.ScaleKeeps x0 a1 w0 w1
  refine (P.tidepolelaw25_ScaleKeeps.calls x0.f0 x0.f1 x0.f2 x0.f3 x0.f4 A0_5 c0_5 x0.f5 A0_6 c0_6 x0.f6 A0_7 c0_7 x0.f7 A0_8 c0_8 x0.f8 a1 true W hC0_5 h0_5_l hC0_6 h0_6_l hC0_7 h0_7_l hC0_8 h0_8_l hk).mono fun e W' ⟨he, bel⟩ => ?_
  subst he
  exact ⟨_, rfl, _, _, _, [], _, [], hW', trodAll_mk1 (shut_bool Try.underlying4 _), (trodAll_cons_mk (Below.trod laidOut (by kernel_rfl) (of_decide_eq_true (by kernel_rfl)) k0 bel lt0) (trodAll_cons_mk (shut_int Try.underlying3 w1) trodAll_mk0)), rfl, bel.frame _, fun h => by cases h⟩
theorem cf0 : (Rows.scaleKeepsRow.wf (OpenSpec.ofChange Rows.scaleKeepsSpec)) = true := by kernel_rfl
theorem cf1 : (laidOutB Try.prog) = true := P.head_laidOut
theorem cf2 : (mapsRowed Try.prog) = true := P.head_mapsRowed
theorem cf3 : (Try.f6.params.all (Try.prog.readableRec ·)) = true := by kernel_rfl
theorem cf4 : (namedTie Try.prog Rows.scaleKeepsRow.named Rows.scaleKeepsSpec.vars) = true := by kernel_rfl
theorem cf5 : ((Rows.scaleKeepsRow.stops == [])) = true := by kernel_rfl
theorem cf6 : ((Try.prog.stops == [])) = true := P.head_stops
theorem cf7 : ((Rows.scaleKeepsRow.knobs == [])) = true := by kernel_rfl
theorem cf8 : ((Try.prog.stopKnobs == [])) = true := P.head_stopKnobs
theorem cf9 : ((Rows.scaleKeepsRow.inPlace == Try.prog.inPlace 6)) = true := by kernel_rfl
theorem cf10 : ((Rows.scaleKeepsRow.unfollowed == Try.prog.unfollowed 6)) = true := by kernel_rfl
theorem cf11 : ((Rows.scaleKeepsRow.recurses == Try.prog.recurses 6)) = true := by kernel_rfl
theorem cf12 : ((Rows.scaleKeepsRow.named == Try.prog.varsNamed 6)) = true := by kernel_rfl
theorem cf13 : ((Rows.scaleKeepsRow.maps == (Try.f6.params.toList ++ Rows.scaleKeepsSpec.plain.varTypes Try.prog).any (Try.prog.mapsRec ·))) = true := by kernel_rfl
theorem cf14 : ((Rows.scaleKeepsRow.ifaces == (Try.f6.params.toList ++ Rows.scaleKeepsSpec.plain.varTypes Try.prog).any (Try.prog.ifacesRec ·))) = true := by kernel_rfl
theorem cf15 : ((Rows.scaleKeepsRow.mapsOut == Try.prog.mapsAmong Try.f6.resultTypes.toList)) = true := by kernel_rfl
theorem cf16 : ((Rows.scaleKeepsRow.loops == (Try.f6.params.toList ++ Rows.scaleKeepsSpec.plain.varTypes Try.prog).any (Try.prog.loopsFrom ·))) = true := by kernel_rfl
theorem cf17 : ((Rows.scaleKeepsRow.wideKeys == (Try.f6.params.toList ++ Rows.scaleKeepsSpec.plain.varTypes Try.prog ++ Try.f6.resultTypes.toList).any (Try.prog.wideKeysFrom ·))) = true := by kernel_rfl
theorem cf18 : (Rows.scaleKeepsSpec.vars.all (Try.prog.varReadable ·)) = true := by kernel_rfl
theorem cf19 : (Try.f6.resultTypes.all (fun t => Try.prog.readableRec t && decide (t < Try.prog.types.size))) = true := by kernel_rfl
theorem cf20 : ((Rows.scaleKeepsRow.ifacesOut == Try.f6.resultTypes.toList.any (Try.prog.ifacesRec ·))) = true := by kernel_rfl
theorem cf21 : ((Rows.scaleKeepsRow.loopsOut == Try.f6.resultTypes.toList.any (Try.prog.loopsFrom ·))) = true := by kernel_rfl
theorem cf22 : ((Rows.scaleKeepsRow.plainKeys == Try.prog.plainKeys)) = true := by rw [P.head_plainKeys]; kernel_rfl
theorem cf23 : (Rows.scaleKeepsRow.shortTexts.isNone) = true := by kernel_rfl
theorem cf24 : (Try.prog.stopsHeard) = true := P.head_stopsHeard
theorem cf25 : (Try.prog.mayEnter) = true := P.head_mayEnter
theorem cf26 : ((Rows.scaleKeepsRow.lifted == Try.prog.liftsFinal)) = true := by rw [P.head_liftsFinal]; kernel_rfl
theorem cf27 : ((Try.prog.make == some Rows.scaleKeepsRow.make)) = true := by rw [P.head_make]; kernel_rfl
theorem cf28 : ((Rows.scaleKeepsRow.kinds == (if Rows.scaleKeepsRow.domain.isEmpty then [] else Try.f6.params.toList.map fun t => match Try.prog.underlying t with | some (.int k) => some k | _ => none))) = true := by kernel_rfl
theorem cf29 : ((Rows.scaleKeepsRow.pinned == Rows.scaleKeepsRow.pinnedBy)) = true := by kernel_rfl
theorem cf30 : ((Rows.scaleKeepsRow.veiled == (Try.f6.params.toList ++ Rows.scaleKeepsSpec.plain.varTypes Try.prog ++ Try.f6.resultTypes.toList).any (Try.prog.veiledRec ·))) = true := by kernel_rfl
theorem cf31 : (Rows.scaleKeepsRow.veiledFits Try.prog Try.f6.params.toList (Try.f6.params.toList ++ Rows.scaleKeepsSpec.plain.varTypes Try.prog ++ Try.f6.resultTypes.toList)) = true := by kernel_rfl
theorem band_mk {a b : Bool} (h : a = true) (k : b = true) : (a && b) = true := by rw [h, k]; rfl
theorem closed : joinedFacts Try.prog 6 Try.f6 Rows.scaleKeepsSpec Rows.scaleKeepsRow = true := by unfold joinedFacts; exact (band_mk (band_mk (band_mk (band_mk (band_mk (band_mk (band_mk (band_mk (band_mk (band_mk (band_mk (band_mk (band_mk (band_mk (band_mk (band_mk (band_mk (band_mk (band_mk (band_mk (band_mk (band_mk (band_mk (band_mk (band_mk (band_mk (band_mk (band_mk (band_mk (band_mk (band_mk cf0 cf1) cf2) cf3) cf4) cf5) cf6) cf7) cf8) cf9) cf10) cf11) cf12) cf13) cf14) cf15) cf16) cf17) cf18) cf19) cf20) cf21) cf22) cf23) cf24) cf25) cf26) cf27) (by kernel_rfl)) cf29) cf30) cf31)
theorem over : Rows.scaleKeepsRow.holds Try.pinned (OpenSpec.ofChange Rows.scaleKeepsSpec) :=
  OpenClaim.holds_of_wide 6 Try.f6 rfl rfl rfl rfl rfl rfl rfl ⟨rfl, rfl, rfl, rfl, rfl⟩ rfl rfl rfl rfl rfl (by kernel_rfl) Try.func6 closed
    (of_decide_eq_true (by kernel_rfl)) (by unfold Func.isWrapper; first | (rw [if_pos (by decide +kernel)]; kernel_rfl) | (rw [if_neg (by decide +kernel)]; exact ⟨rfl, rfl⟩))
    (fun os started H enc _ => lifted os started H enc)
theorem proved : Rows.ScaleKeepsSaid := over
#print axioms proved
end Go.Proofs.Ytgkplhdcafbfbaa.scaleKeeps
namespace Go.Proofs.Ytgkplhdcafbfbaa
theorem scaleKeeps_holds : Rows.ScaleKeepsSaid := scaleKeeps.proved
end Go.Proofs.Ytgkplhdcafbfbaa
