/- RankScales: the part that this text bears of the proof that the statement answers true for every input. No condition. -/
import Derived.Test.YtgkplhdcafbfbaaProg
import Derived.Below
import Derived.Deep.Draws
import Derived.Deep.AppendLies
import Derived.Maps.AppendAt
import Derived.OwnWalk
import Derived.Laws.BytesArg
import Derived.Laws.MakeOwn
import Derived.Laws.OwnMore
import Derived.Deep.OwnRows
import Derived.Tactics
import Derived.Lib.ConvBytes
import Derived.Laws.Slices
import Derived.WalkKit
import Derived.KernelRfl
import Derived.RowKit3
import Derived.Deep.LoopGhost
import Derived.Deep.QuietTactic
import Derived.BigQuiet
import Derived.WideLaws
import Derived.Deep.DeepCutAuto
import Derived.Deep.CutBlock
import Derived.Deep.RegionHeld3
import Derived.Laws.Rows
import Derived.Lib.AppendStr
import Derived.ArgAppend
import Derived.Laws.IdiomCopy
import Derived.OrdersHeld
import Derived.Laws.BitsLemmas
import Derived.RowKit
import Derived.Deep.Slices
import Derived.ChangeArms
import Derived.Shelf.Abstract
import Derived.WalkSpells
import Derived.RangeFuncNested
import Derived.RangeFuncBound
import Derived.RangeFuncCalls
import Derived.RangeFuncLeaves
import Derived.RangeFuncBox
import Derived.OwnWalkIn
import Derived.TacticsInMore
import Derived.LoopNIn
import Derived.LoopIn
import Derived.Laws.Externs
import Derived.Shelf.Spec.BitsCarry
import Derived.RegionIn
import Derived.Sort.QuietTacIn
import Derived.Deep.RegionWith
import Derived.Laws.BitsAllLaws
import Derived.Outline
import Derived.Shelf.Lays
import Derived.Shelf.Strings.Builder1
import Derived.Shelf.Small.Bits
import Derived.Shelf.Bits.Mul64
import Derived.ProofKit
import Derived.JoinedOf
import Derived.OpenShut
import Derived.ShutString
import Derived.ChangeOld
import Derived.SizedLaws
import Derived.JoinedTies
import Derived.Laws.StructEq
import Derived.Test.YtgkplhdcafbfbaaChecked
import GoSem.Claim
import GoSem.ClaimJoined
import GoSem.ClaimMapViews
import Derived.Test.YtgkplhdcafbfbaaQRankScalesWWords
import Derived.Test.YtgkplhdcafbfbaaQRankScalesWLast
import Derived.Test.YtgkplhdcafbfbaaQRankScalesWTab
import Derived.Test.YtgkplhdcafbfbaaQRankScalesWFour
import Derived.Test.YtgkplhdcafbfbaaQRankScalesWQPut
import Derived.Test.YtgkplhdcafbfbaaQRankScalesWApart
import Derived.Test.YtgkplhdcafbfbaaQRankScalesWArr
import Derived.Test.YtgkplhdcafbfbaaQRankScalesWZeros
import Derived.Test.YtgkplhdcafbfbaaQRankScalesWFoot
import Derived.Test.YtgkplhdcafbfbaaQRankScalesWKept
import Derived.Test.YtgkplhdcafbfbaaQRankScalesWShare
import Derived.Test.YtgkplhdcafbfbaaQRankScalesWN
import Derived.Test.YtgkplhdcafbfbaaQRankScalesWFootNe
import Derived.Test.YtgkplhdcafbfbaaQRankScalesWAt
import Derived.Test.YtgkplhdcafbfbaaQRankScalesWEqStruct
import Derived.Test.YtgkplhdcafbfbaaQRankScalesWRepsOne
import Derived.Test.YtgkplhdcafbfbaaQRankScalesWInv
import Derived.Test.YtgkplhdcafbfbaaQRankScalesWInvWords
import Derived.Test.YtgkplhdcafbfbaaQRankScalesWGuard
import Derived.Test.YtgkplhdcafbfbaaQRankScalesWNEv
import Derived.Test.YtgkplhdcafbfbaaQRankScalesWMore
import Derived.Test.YtgkplhdcafbfbaaRows
import Derived.Test.YtgkplhdcafbfbaaQRankScales0
import Derived.Test.YtgkplhdcafbfbaaQRankScales1
import Derived.Test.YtgkplhdcafbfbaaQRankScales2
import Derived.Test.YtgkplhdcafbfbaaQRankScales3
set_option linter.unusedVariables false
set_option linter.unusedSimpArgs false
namespace Go.Proofs.Ytgkplhdcafbfbaa.P
open Go.RowKit Go.Shelf Go.Proofs.YtgkplhdcafbfbaaW.PrintWords Go.Proofs.YtgkplhdcafbfbaaW.PrintLast Go.Proofs.YtgkplhdcafbfbaaW.PrintMore
def wfI (h : Hi) : Prop := i64 h.f0 ∧ u64 h.f1 ∧ u64 h.f2 ∧ u64 h.f3 ∧ u64 h.f4 ∧ wfSps h.f5 ∧ wfSps h.f6 ∧ i64s h.f7 ∧ i64s h.f8
instance (h : Hi) : Decidable (wfI h) := by unfold wfI; exact inferInstance
theorem wfI_of {x : S30} (h : wf30 x) : wfI x := ⟨i64_of h.1, u64_of h.2.1, u64_of h.2.2.1, u64_of h.2.2.2.1, u64_of h.2.2.2.2.1, wfSps_of h.2.2.2.2.2.1, wfSps_of h.2.2.2.2.2.2.1, i64_all h.2.2.2.2.2.2.2.1, i64_all h.2.2.2.2.2.2.2.2⟩
theorem wfH_of {h : Hi} (x : wfI h) (h7 : h.f7.length ≤ 300) (h8 : h.f8.length ≤ 300) : wfH h := ⟨x.1, x.2.1, x.2.2.1, x.2.2.2.1, x.2.2.2.2.1, x.2.2.2.2.2.1, x.2.2.2.2.2.2.1, x.2.2.2.2.2.2.2.1, x.2.2.2.2.2.2.2.2, by omega, by omega⟩
theorem scale25_c (a x : Hi) (e tt : Int) (hw : wfH a) (ht : i64 tt) (hx : scaleR a tt = (x, e)) (w : World) (u : Value) (hu : HI w u a) : Calls Try.prog 15 #[u, .int .i64 tt] w fun r w' => ∃ D5x g5x D6x g6x D7x g7x D8x g8x, r = .returned (.tuple #[.agg #[.int .i64 x.f0, .int .u64 x.f1, .int .u64 x.f2, .int .u64 x.f3, .int .u64 x.f4, .slice D5x x.f5.length g5x, .slice D6x x.f6.length g6x, .slice D7x x.f7.length g7x, .slice D8x x.f8.length g8x], .int .i64 e]) ∧ HI w' (.agg #[.int .i64 x.f0, .int .u64 x.f1, .int .u64 x.f2, .int .u64 x.f3, .int .u64 x.f4, .slice D5x x.f5.length g5x, .slice D6x x.f6.length g6x, .slice D7x x.f7.length g7x, .slice D8x x.f8.length g8x]) x ∧ Below w.heap.size w w' := by
  have := scaleI_c a hw tt ht w u hu
  rw [hx] at this
  refine this.mono ?_
  rintro r w1 ⟨v0, rfl, h0, hb⟩
  obtain ⟨a5, c5, a6, c6, a7, c7, a8, c8, e, -⟩ := h0.now.open_
  have hi := h0.now
  subst e
  exact ⟨a5, c5, a6, c6, a7, c7, a8, c8, rfl, hi, hb⟩
theorem at_place {h : Hi} (hw : wfH h) {k : Int} {b : Bk} (ha : atR h k = (b, 0)) : i64 b.p := by
  obtain ⟨hc, -, hb, -⟩ := at_some hw ha
  have hr := openR_row hw
  rcases told_mem hc hb with ⟨-, q, hq, e0, -⟩ | ⟨rfl, -⟩ | ⟨-, q, hq, e0, -⟩
  · exact e0 ▸ (hr.2.wf.1 q hq).1
  · show i64 (0 : Int); unfold i64; omega
  · exact e0 ▸ (hr.1.wf.1 q hq).1
theorem scale_wrap {h x : Hi} {tt : Int} (hw : wfH h) (hx : scaleR h tt = (x, 0)) : IntKind.i64.wrap (h.f0 - tt) = h.f0 - tt := by
  obtain ⟨hc, t0, t1, -⟩ := ints_ok (h := h) (tt := tt) (by rw [hx])
  have hs := checkR_schema hc
  rw [IntKind.wrap_i64]
  omega
set_option maxHeartbeats 32000000 in
set_option maxRecDepth 100000 in
theorem rankScales_c (a : Hi) (tt k : Int) (hwa : wfI a) (htt : i64 tt) (hk : u64 k) (w : World) (u x1 x2 : Value) (hx1 : x1 = .int .i64 tt) (hx2 : x2 = .int .u64 k) (hua : HI w u a) : Calls Try.prog 10 #[u, x1, x2] w fun e w' => e = .returned (.bool true) ∧ Below w.heap.size w w' := by
  subst hx1; subst hx2
  have hud := Try.underlying30
  have hub := Try.underlying75
  obtain ⟨b1, hb1, cs⟩ := small29_c a
  have CS := Aside0.mk cs
  clear cs
  cases b1 with
  | false =>
    clear hb1
    obtain ⟨A5a, c5a, A6a, c6a, A7a, c7a, A8a, c8a, e, -⟩ := hua.open_
    subst e
    have B := Aside0.mk (below_alloc (Below.refl w.heap.size w) (.cells #[.int .i64 a.f0, .int .u64 a.f1, .int .u64 a.f2, .int .u64 a.f3, .int .u64 a.f4, .slice A5a a.f5.length c5a, .slice A6a a.f6.length c6a, .slice A7a a.f7.length c7a, .slice A8a a.f8.length c8a] 30))
    have X := Aside0.mk (Blk.new w #[.int .i64 a.f0, .int .u64 a.f1, .int .u64 a.f2, .int .u64 a.f3, .int .u64 a.f4, .slice A5a a.f5.length c5a, .slice A6a a.f6.length c6a, .slice A7a a.f7.length c7a, .slice A8a a.f8.length c8a] 30)
    have hx := fun i => X.out.cell i
    have HA := Aside0.mk (hua.below B.out)
    clear hua
    go_enter Try.func10, Try.ntmps10
    go_wp2_with (first | (go_at_call 32; (with_reducible refine (CS.out _ _ HA.out).mono ?_); rintro e W1 ⟨rfl, hb⟩; replace B := Aside0.mk (below_then B.out B.out.size hb); replace HA := Aside0.mk (HA.out.below hb); replace X := Aside0.mk (X.out.below hb); replace hx := fun i => X.out.cell i; clear  hb) | (go_at_call 33; (with_reducible refine (awake29_c _).mono ?_); rintro e W2 ⟨rfl, hb⟩; replace B := Aside0.mk (below_then B.out B.out.size hb); replace HA := Aside0.mk (HA.out.below hb); replace X := Aside0.mk (X.out.below hb); replace hx := fun i => X.out.cell i; clear  hb))
    go_ret
    exact ⟨rfl, B.out⟩
  | true =>
  obtain ⟨n5, n6, n7, n8⟩ := hb1 rfl
  have hWa := wfH_of hwa (by omega) (by omega)
  obtain ⟨⟨x, e⟩, hx⟩ : ∃ r, scaleR a tt = r := ⟨_, rfl⟩
  have n1 := scale25_c a x e tt hWa htt hx
  have N1 := Aside0.mk n1
  have n2 := at_c a hWa k hk
  obtain ⟨⟨b, f⟩, hb⟩ : ∃ r, atR a k = r := ⟨_, rfl⟩
  rw [hb] at n2
  obtain ⟨b1, b2, b3⟩ := b
  simp only [encB1] at n2
  have N2 := Aside0.mk n2
  by_cases c1 : e = 0
  rotate_left
  · have d1 : (e != 0) = true := bne_iff_ne.2 c1
    clear c1 n1 n2 hx hb n5 n6 n7 n8 hb1 hwa htt hWa hk
    obtain ⟨A5a, c5a, A6a, c6a, A7a, c7a, A8a, c8a, e, -⟩ := hua.open_
    subst e
    have B := Aside0.mk (below_alloc (Below.refl w.heap.size w) (.cells #[.int .i64 a.f0, .int .u64 a.f1, .int .u64 a.f2, .int .u64 a.f3, .int .u64 a.f4, .slice A5a a.f5.length c5a, .slice A6a a.f6.length c6a, .slice A7a a.f7.length c7a, .slice A8a a.f8.length c8a] 30))
    have X := Aside0.mk (Blk.new w #[.int .i64 a.f0, .int .u64 a.f1, .int .u64 a.f2, .int .u64 a.f3, .int .u64 a.f4, .slice A5a a.f5.length c5a, .slice A6a a.f6.length c6a, .slice A7a a.f7.length c7a, .slice A8a a.f8.length c8a] 30)
    have hx := fun i => X.out.cell i
    have HA := Aside0.mk (hua.below B.out)
    clear hua
    go_enter Try.func10, Try.ntmps10
    go_wp2_with (first | (go_at_call 32; (with_reducible refine (CS.out _ _ HA.out).mono ?_); rintro e W1 ⟨rfl, hb⟩; replace B := Aside0.mk (below_then B.out B.out.size hb); replace HA := Aside0.mk (HA.out.below hb); replace X := Aside0.mk (X.out.below hb); replace hx := fun i => X.out.cell i; clear  hb) | (go_at_call 15; (with_reducible refine (N1.out _ _ HA.out).mono ?_); rintro e W2 ⟨D5x, g5x, D6x, g6x, D7x, g7x, D8x, g8x, rfl, hh, hb⟩; replace B := Aside0.mk (below_then B.out B.out.size hb); replace HA := Aside0.mk (HA.out.below hb); replace X := Aside0.mk (X.out.below hb); replace hx := fun i => X.out.cell i; have HX := Aside0.mk hh; have hxa := fun i => (X.out.alloc (.cells #[.int .i64 x.f0, .int .u64 x.f1, .int .u64 x.f2, .int .u64 x.f3, .int .u64 x.f4, .slice D5x x.f5.length g5x, .slice D6x x.f6.length g6x, .slice D7x x.f7.length g7x, .slice D8x x.f8.length g8x] 30)).cell i; clear hh hb))
    (try clear hxa)
    have hal := below_alloc (Below.refl W2.heap.size W2) (.cells #[.int .i64 x.f0, .int .u64 x.f1, .int .u64 x.f2, .int .u64 x.f3, .int .u64 x.f4, .slice D5x x.f5.length g5x, .slice D6x x.f6.length g6x, .slice D7x x.f7.length g7x, .slice D8x x.f8.length g8x] 30)
    replace B := Aside0.mk (below_then B.out B.out.size hal)
    replace HA := Aside0.mk (HA.out.below hal)
    replace HX := Aside0.mk (HX.out.below hal)
    replace X := Aside0.mk (X.out.alloc (.cells #[.int .i64 x.f0, .int .u64 x.f1, .int .u64 x.f2, .int .u64 x.f3, .int .u64 x.f4, .slice D5x x.f5.length g5x, .slice D6x x.f6.length g6x, .slice D7x x.f7.length g7x, .slice D8x x.f8.length g8x] 30)); replace hx := fun i => X.out.cell i
    have P := Aside0.mk (Blk.new W2 #[.int .i64 x.f0, .int .u64 x.f1, .int .u64 x.f2, .int .u64 x.f3, .int .u64 x.f4, .slice D5x x.f5.length g5x, .slice D6x x.f6.length g6x, .slice D7x x.f7.length g7x, .slice D8x x.f8.length g8x] 30); have hp := fun i => P.out.cell i; clear hal
    go_wp2_with (first | (go_at_call 34; (with_reducible refine (N2.out _ _ HA.out).mono ?_); rintro e W3 ⟨rfl, hb⟩; replace B := Aside0.mk (below_then B.out B.out.size hb); replace HA := Aside0.mk (HA.out.below hb); replace HX := Aside0.mk (HX.out.below hb); replace X := Aside0.mk (X.out.below hb); replace hx := fun i => X.out.cell i; replace P := Aside0.mk (P.out.below hb); replace hp := fun i => P.out.cell i; have hxa := fun i => (X.out.alloc (.cells #[.int .i64 b1, .int .i64 b2, .int .u64 b3] 75)).cell i; have hpa := fun i => (P.out.alloc (.cells #[.int .i64 b1, .int .i64 b2, .int .u64 b3] 75)).cell i; clear  hb))
    (try clear hxa hpa)
    have hal := below_alloc (Below.refl W3.heap.size W3) (.cells #[.int .i64 b1, .int .i64 b2, .int .u64 b3] 75)
    replace B := Aside0.mk (below_then B.out B.out.size hal)
    replace HA := Aside0.mk (HA.out.below hal)
    replace HX := Aside0.mk (HX.out.below hal)
    replace X := Aside0.mk (X.out.alloc (.cells #[.int .i64 b1, .int .i64 b2, .int .u64 b3] 75)); replace hx := fun i => X.out.cell i
    replace P := Aside0.mk (P.out.alloc (.cells #[.int .i64 b1, .int .i64 b2, .int .u64 b3] 75)); replace hp := fun i => P.out.cell i
    have Q := Aside0.mk (Blk.new W3 #[.int .i64 b1, .int .i64 b2, .int .u64 b3] 75); have hq := fun i => Q.out.cell i; clear hal
    go_wp2_with (first | (go_at_call 33; (with_reducible refine (awake29_c _).mono ?_); rintro e W4 ⟨rfl, hb⟩; replace B := Aside0.mk (below_then B.out B.out.size hb); replace HA := Aside0.mk (HA.out.below hb); replace HX := Aside0.mk (HX.out.below hb); replace X := Aside0.mk (X.out.below hb); replace hx := fun i => X.out.cell i; replace P := Aside0.mk (P.out.below hb); replace hp := fun i => P.out.cell i; replace Q := Aside0.mk (Q.out.below hb); replace hq := fun i => Q.out.cell i; clear  hb))
    go_ret
    exact ⟨rfl, B.out⟩
  subst c1
  by_cases c2 : f = 0
  rotate_left
  · have d1 : (f != 0) = true := bne_iff_ne.2 c2
    clear c2 n1 n2 hx hb n5 n6 n7 n8 hb1 hwa htt hWa hk
    obtain ⟨A5a, c5a, A6a, c6a, A7a, c7a, A8a, c8a, e, -⟩ := hua.open_
    subst e
    have B := Aside0.mk (below_alloc (Below.refl w.heap.size w) (.cells #[.int .i64 a.f0, .int .u64 a.f1, .int .u64 a.f2, .int .u64 a.f3, .int .u64 a.f4, .slice A5a a.f5.length c5a, .slice A6a a.f6.length c6a, .slice A7a a.f7.length c7a, .slice A8a a.f8.length c8a] 30))
    have X := Aside0.mk (Blk.new w #[.int .i64 a.f0, .int .u64 a.f1, .int .u64 a.f2, .int .u64 a.f3, .int .u64 a.f4, .slice A5a a.f5.length c5a, .slice A6a a.f6.length c6a, .slice A7a a.f7.length c7a, .slice A8a a.f8.length c8a] 30)
    have hx := fun i => X.out.cell i
    have HA := Aside0.mk (hua.below B.out)
    clear hua
    go_enter Try.func10, Try.ntmps10
    go_wp2_with (first | (go_at_call 32; (with_reducible refine (CS.out _ _ HA.out).mono ?_); rintro e W1 ⟨rfl, hb⟩; replace B := Aside0.mk (below_then B.out B.out.size hb); replace HA := Aside0.mk (HA.out.below hb); replace X := Aside0.mk (X.out.below hb); replace hx := fun i => X.out.cell i; clear  hb) | (go_at_call 15; (with_reducible refine (N1.out _ _ HA.out).mono ?_); rintro e W2 ⟨D5x, g5x, D6x, g6x, D7x, g7x, D8x, g8x, rfl, hh, hb⟩; replace B := Aside0.mk (below_then B.out B.out.size hb); replace HA := Aside0.mk (HA.out.below hb); replace X := Aside0.mk (X.out.below hb); replace hx := fun i => X.out.cell i; have HX := Aside0.mk hh; have hxa := fun i => (X.out.alloc (.cells #[.int .i64 x.f0, .int .u64 x.f1, .int .u64 x.f2, .int .u64 x.f3, .int .u64 x.f4, .slice D5x x.f5.length g5x, .slice D6x x.f6.length g6x, .slice D7x x.f7.length g7x, .slice D8x x.f8.length g8x] 30)).cell i; clear hh hb))
    (try clear hxa)
    have hal := below_alloc (Below.refl W2.heap.size W2) (.cells #[.int .i64 x.f0, .int .u64 x.f1, .int .u64 x.f2, .int .u64 x.f3, .int .u64 x.f4, .slice D5x x.f5.length g5x, .slice D6x x.f6.length g6x, .slice D7x x.f7.length g7x, .slice D8x x.f8.length g8x] 30)
    replace B := Aside0.mk (below_then B.out B.out.size hal)
    replace HA := Aside0.mk (HA.out.below hal)
    replace HX := Aside0.mk (HX.out.below hal)
    replace X := Aside0.mk (X.out.alloc (.cells #[.int .i64 x.f0, .int .u64 x.f1, .int .u64 x.f2, .int .u64 x.f3, .int .u64 x.f4, .slice D5x x.f5.length g5x, .slice D6x x.f6.length g6x, .slice D7x x.f7.length g7x, .slice D8x x.f8.length g8x] 30)); replace hx := fun i => X.out.cell i
    have P := Aside0.mk (Blk.new W2 #[.int .i64 x.f0, .int .u64 x.f1, .int .u64 x.f2, .int .u64 x.f3, .int .u64 x.f4, .slice D5x x.f5.length g5x, .slice D6x x.f6.length g6x, .slice D7x x.f7.length g7x, .slice D8x x.f8.length g8x] 30); have hp := fun i => P.out.cell i; clear hal
    go_wp2_with (first | (go_at_call 34; (with_reducible refine (N2.out _ _ HA.out).mono ?_); rintro e W3 ⟨rfl, hb⟩; replace B := Aside0.mk (below_then B.out B.out.size hb); replace HA := Aside0.mk (HA.out.below hb); replace HX := Aside0.mk (HX.out.below hb); replace X := Aside0.mk (X.out.below hb); replace hx := fun i => X.out.cell i; replace P := Aside0.mk (P.out.below hb); replace hp := fun i => P.out.cell i; have hxa := fun i => (X.out.alloc (.cells #[.int .i64 b1, .int .i64 b2, .int .u64 b3] 75)).cell i; have hpa := fun i => (P.out.alloc (.cells #[.int .i64 b1, .int .i64 b2, .int .u64 b3] 75)).cell i; clear  hb))
    (try clear hxa hpa)
    have hal := below_alloc (Below.refl W3.heap.size W3) (.cells #[.int .i64 b1, .int .i64 b2, .int .u64 b3] 75)
    replace B := Aside0.mk (below_then B.out B.out.size hal)
    replace HA := Aside0.mk (HA.out.below hal)
    replace HX := Aside0.mk (HX.out.below hal)
    replace X := Aside0.mk (X.out.alloc (.cells #[.int .i64 b1, .int .i64 b2, .int .u64 b3] 75)); replace hx := fun i => X.out.cell i
    replace P := Aside0.mk (P.out.alloc (.cells #[.int .i64 b1, .int .i64 b2, .int .u64 b3] 75)); replace hp := fun i => P.out.cell i
    have Q := Aside0.mk (Blk.new W3 #[.int .i64 b1, .int .i64 b2, .int .u64 b3] 75); have hq := fun i => Q.out.cell i; clear hal
    go_wp2_with (first | (go_at_call 33; (with_reducible refine (awake29_c _).mono ?_); rintro e W4 ⟨rfl, hb⟩; replace B := Aside0.mk (below_then B.out B.out.size hb); replace HA := Aside0.mk (HA.out.below hb); replace HX := Aside0.mk (HX.out.below hb); replace X := Aside0.mk (X.out.below hb); replace hx := fun i => X.out.cell i; replace P := Aside0.mk (P.out.below hb); replace hp := fun i => P.out.cell i; replace Q := Aside0.mk (Q.out.below hb); replace hq := fun i => Q.out.cell i; clear  hb))
    go_ret
    exact ⟨rfl, B.out⟩
  subst c2
  obtain ⟨wx, ⟨g1, g2, g3⟩, hg, e1, e2, e3⟩ := rankScales_plain hWa (by omega) (by omega) hx hb
  simp only at e1 e2 e3
  subst e1
  have n3 := at_c x wx k hk
  rw [hg] at n3
  simp only [encB1] at n3
  have hp := at_place hWa hb
  have hwr : IntKind.i64.wrap (a.f0 - tt) = a.f0 - tt := scale_wrap hWa hx
  have d3 : decide (b3 ≤ g3) = true := decide_eq_true e3
  have d3' : decide (g3 ≥ b3) = true := decide_eq_true e3
  by_cases c3 : g1 = 2
  · have d4 : (g1 == 2) = true := beq_iff_eq.2 c3
    have d5 : (g1 == g1) = true := beq_self_eq_true _
    have N3 := Aside0.mk n3
    clear c3 e2 e3 hp hwr n1 n2 n3 hx hb hg wx n5 n6 n7 n8 hb1 hwa htt hWa hk
    obtain ⟨A5a, c5a, A6a, c6a, A7a, c7a, A8a, c8a, e, -⟩ := hua.open_
    subst e
    have B := Aside0.mk (below_alloc (Below.refl w.heap.size w) (.cells #[.int .i64 a.f0, .int .u64 a.f1, .int .u64 a.f2, .int .u64 a.f3, .int .u64 a.f4, .slice A5a a.f5.length c5a, .slice A6a a.f6.length c6a, .slice A7a a.f7.length c7a, .slice A8a a.f8.length c8a] 30))
    have X := Aside0.mk (Blk.new w #[.int .i64 a.f0, .int .u64 a.f1, .int .u64 a.f2, .int .u64 a.f3, .int .u64 a.f4, .slice A5a a.f5.length c5a, .slice A6a a.f6.length c6a, .slice A7a a.f7.length c7a, .slice A8a a.f8.length c8a] 30)
    have hx := fun i => X.out.cell i
    have HA := Aside0.mk (hua.below B.out)
    clear hua
    go_enter Try.func10, Try.ntmps10
    go_wp2_with (first | (go_at_call 32; (with_reducible refine (CS.out _ _ HA.out).mono ?_); rintro e W1 ⟨rfl, hb⟩; replace B := Aside0.mk (below_then B.out B.out.size hb); replace HA := Aside0.mk (HA.out.below hb); replace X := Aside0.mk (X.out.below hb); replace hx := fun i => X.out.cell i; clear  hb) | (go_at_call 15; (with_reducible refine (N1.out _ _ HA.out).mono ?_); rintro e W2 ⟨D5x, g5x, D6x, g6x, D7x, g7x, D8x, g8x, rfl, hh, hb⟩; replace B := Aside0.mk (below_then B.out B.out.size hb); replace HA := Aside0.mk (HA.out.below hb); replace X := Aside0.mk (X.out.below hb); replace hx := fun i => X.out.cell i; have HX := Aside0.mk hh; have hxa := fun i => (X.out.alloc (.cells #[.int .i64 x.f0, .int .u64 x.f1, .int .u64 x.f2, .int .u64 x.f3, .int .u64 x.f4, .slice D5x x.f5.length g5x, .slice D6x x.f6.length g6x, .slice D7x x.f7.length g7x, .slice D8x x.f8.length g8x] 30)).cell i; clear hh hb))
    (try clear hxa)
    have hal := below_alloc (Below.refl W2.heap.size W2) (.cells #[.int .i64 x.f0, .int .u64 x.f1, .int .u64 x.f2, .int .u64 x.f3, .int .u64 x.f4, .slice D5x x.f5.length g5x, .slice D6x x.f6.length g6x, .slice D7x x.f7.length g7x, .slice D8x x.f8.length g8x] 30)
    replace B := Aside0.mk (below_then B.out B.out.size hal)
    replace HA := Aside0.mk (HA.out.below hal)
    replace HX := Aside0.mk (HX.out.below hal)
    replace X := Aside0.mk (X.out.alloc (.cells #[.int .i64 x.f0, .int .u64 x.f1, .int .u64 x.f2, .int .u64 x.f3, .int .u64 x.f4, .slice D5x x.f5.length g5x, .slice D6x x.f6.length g6x, .slice D7x x.f7.length g7x, .slice D8x x.f8.length g8x] 30)); replace hx := fun i => X.out.cell i
    have P := Aside0.mk (Blk.new W2 #[.int .i64 x.f0, .int .u64 x.f1, .int .u64 x.f2, .int .u64 x.f3, .int .u64 x.f4, .slice D5x x.f5.length g5x, .slice D6x x.f6.length g6x, .slice D7x x.f7.length g7x, .slice D8x x.f8.length g8x] 30); have hp := fun i => P.out.cell i; clear hal
    go_wp2_with (first | (go_at_call 34; (with_reducible refine (N2.out _ _ HA.out).mono ?_); rintro e W3 ⟨rfl, hb⟩; replace B := Aside0.mk (below_then B.out B.out.size hb); replace HA := Aside0.mk (HA.out.below hb); replace HX := Aside0.mk (HX.out.below hb); replace X := Aside0.mk (X.out.below hb); replace hx := fun i => X.out.cell i; replace P := Aside0.mk (P.out.below hb); replace hp := fun i => P.out.cell i; have hxa := fun i => (X.out.alloc (.cells #[.int .i64 g1, .int .i64 b2, .int .u64 b3] 75)).cell i; have hpa := fun i => (P.out.alloc (.cells #[.int .i64 g1, .int .i64 b2, .int .u64 b3] 75)).cell i; clear  hb))
    (try clear hxa hpa)
    have hal := below_alloc (Below.refl W3.heap.size W3) (.cells #[.int .i64 g1, .int .i64 b2, .int .u64 b3] 75)
    replace B := Aside0.mk (below_then B.out B.out.size hal)
    replace HA := Aside0.mk (HA.out.below hal)
    replace HX := Aside0.mk (HX.out.below hal)
    replace X := Aside0.mk (X.out.alloc (.cells #[.int .i64 g1, .int .i64 b2, .int .u64 b3] 75)); replace hx := fun i => X.out.cell i
    replace P := Aside0.mk (P.out.alloc (.cells #[.int .i64 g1, .int .i64 b2, .int .u64 b3] 75)); replace hp := fun i => P.out.cell i
    have Q := Aside0.mk (Blk.new W3 #[.int .i64 g1, .int .i64 b2, .int .u64 b3] 75); have hq := fun i => Q.out.cell i; clear hal
    go_wp2_with (first | (go_at_call 34; (with_reducible refine (N3.out _ _ HX.out).mono ?_); rintro e W4 ⟨rfl, hb⟩; replace B := Aside0.mk (below_then B.out B.out.size hb); replace HA := Aside0.mk (HA.out.below hb); replace HX := Aside0.mk (HX.out.below hb); replace X := Aside0.mk (X.out.below hb); replace hx := fun i => X.out.cell i; replace P := Aside0.mk (P.out.below hb); replace hp := fun i => P.out.cell i; replace Q := Aside0.mk (Q.out.below hb); replace hq := fun i => Q.out.cell i; have hxa := fun i => (X.out.alloc (.cells #[.int .i64 g1, .int .i64 g2, .int .u64 g3] 75)).cell i; have hpa := fun i => (P.out.alloc (.cells #[.int .i64 g1, .int .i64 g2, .int .u64 g3] 75)).cell i; have hqa := fun i => (Q.out.alloc (.cells #[.int .i64 g1, .int .i64 g2, .int .u64 g3] 75)).cell i; clear  hb))
    (try clear hxa hpa hqa)
    have hal := below_alloc (Below.refl W4.heap.size W4) (.cells #[.int .i64 g1, .int .i64 g2, .int .u64 g3] 75)
    replace B := Aside0.mk (below_then B.out B.out.size hal)
    replace HA := Aside0.mk (HA.out.below hal)
    replace HX := Aside0.mk (HX.out.below hal)
    replace X := Aside0.mk (X.out.alloc (.cells #[.int .i64 g1, .int .i64 g2, .int .u64 g3] 75)); replace hx := fun i => X.out.cell i
    replace P := Aside0.mk (P.out.alloc (.cells #[.int .i64 g1, .int .i64 g2, .int .u64 g3] 75)); replace hp := fun i => P.out.cell i
    replace Q := Aside0.mk (Q.out.alloc (.cells #[.int .i64 g1, .int .i64 g2, .int .u64 g3] 75)); replace hq := fun i => Q.out.cell i
    have U := Aside0.mk (Blk.new W4 #[.int .i64 g1, .int .i64 g2, .int .u64 g3] 75); have hu := fun i => U.out.cell i; clear hal
    replace HA := Aside0.mk (HA.out.below (below_drew (Below.refl _ _)))
    replace HX := Aside0.mk (HX.out.below (below_drew (Below.refl _ _)))
    replace X := Aside0.mk (X.out.below (below_drew (Below.refl _ _)))
    replace P := Aside0.mk (P.out.below (below_drew (Below.refl _ _)))
    replace Q := Aside0.mk (Q.out.below (below_drew (Below.refl _ _)))
    replace U := Aside0.mk (U.out.below (below_drew (Below.refl _ _)))
    replace B := Aside0.mk (below_drew B.out)
    refine wp_region_held_drew (S := (fun W => (∀ i, W.cell? ⟨w.heap.size, i, none⟩ = (#[.int .i64 a.f0, .int .u64 a.f1, .int .u64 a.f2, .int .u64 a.f3, .int .u64 a.f4, .slice A5a a.f5.length c5a, .slice A6a a.f6.length c6a, .slice A7a a.f7.length c7a, .slice A8a a.f8.length c8a] : Array Value)[i]?) ∧ (∀ i, W.cell? ⟨W3.heap.size, i, none⟩ = (#[.int .i64 g1, .int .i64 b2, .int .u64 b3] : Array Value)[i]?) ∧ (∀ i, W.cell? ⟨W4.heap.size, i, none⟩ = (#[.int .i64 g1, .int .i64 g2, .int .u64 g3] : Array Value)[i]?))) (by kernel_rfl) (by exact ⟨fun i => X.out.cell i, fun i => Q.out.cell i, fun i => U.out.cell i⟩) (fun hHeld => ?_)
    refine wpAnyH_take (i := 0) (oi := _) (v := ?_) (by simp only [List.getElem?_toArray, List.getElem?_cons_zero, List.getElem?_cons_succ]; rfl) (by kernel_rfl) (by kernel_rfl) (by kernel_rfl) (by intro _ _ _ h; exact h) (Or.inl ⟨by rfl, ?_⟩) (by assumption) ?_
    rotate_left
    focus ((intro w hSw; (try dsimp only at hSw); go_simp); (all_goals with_reducible rfl))
    (try simp only [Act.put, List.setIfInBounds_toArray, List.set_cons_zero, List.set_cons_succ])
    refine wpAnyH_take (i := 1) (oi := _) (v := ?_) (by simp only [List.getElem?_toArray, List.getElem?_cons_zero, List.getElem?_cons_succ]; rfl) (by kernel_rfl) (by kernel_rfl) (by kernel_rfl) (by intro _ _ _ h; exact h) (Or.inl ⟨by rfl, ?_⟩) (by assumption) ?_
    rotate_left
    focus ((intro w hSw; (try dsimp only at hSw); go_simp); (all_goals with_reducible rfl))
    (try simp only [Act.put, List.setIfInBounds_toArray, List.set_cons_zero, List.set_cons_succ])
    refine wpAnyH_take (i := 2) (oi := _) (v := ?_) (by simp only [List.getElem?_toArray, List.getElem?_cons_zero, List.getElem?_cons_succ]; rfl) (by kernel_rfl) (by kernel_rfl) (by kernel_rfl) (by intro _ _ _ h; exact h) (Or.inl ⟨by rfl, ?_⟩) (by assumption) ?_
    rotate_left
    focus ((intro w hSw; (try dsimp only at hSw); go_simp); (all_goals with_reducible rfl))
    (try simp only [Act.put, List.setIfInBounds_toArray, List.set_cons_zero, List.set_cons_succ])
    refine wpAnyH_take (i := 3) (oi := _) (v := ?_) (by simp only [List.getElem?_toArray, List.getElem?_cons_zero, List.getElem?_cons_succ]; rfl) (by kernel_rfl) (by kernel_rfl) (by kernel_rfl) (by intro _ _ _ h; exact h) (Or.inl ⟨by rfl, ?_⟩) (by assumption) ?_
    rotate_left
    focus ((intro w hSw; (try dsimp only at hSw); go_simp); (all_goals with_reducible rfl))
    (try simp only [Act.put, List.setIfInBounds_toArray, List.set_cons_zero, List.set_cons_succ])
    refine wpAnyH_take (i := 4) (oi := _) (v := ?_) (by simp only [List.getElem?_toArray, List.getElem?_cons_zero, List.getElem?_cons_succ]; rfl) (by kernel_rfl) (by kernel_rfl) (by kernel_rfl) (by intro _ _ _ h; exact h) (Or.inl ⟨by rfl, ?_⟩) (by assumption) ?_
    rotate_left
    focus ((intro w hSw; (try dsimp only at hSw); go_simp); (all_goals with_reducible rfl))
    (try simp only [Act.put, List.setIfInBounds_toArray, List.set_cons_zero, List.set_cons_succ])
    refine wpAnyH_take (i := 5) (oi := _) (v := ?_) (by simp only [List.getElem?_toArray, List.getElem?_cons_zero, List.getElem?_cons_succ]; rfl) (by kernel_rfl) (by kernel_rfl) (by kernel_rfl) (by intro _ _ _ h; exact h) (Or.inl ⟨by rfl, ?_⟩) (by assumption) ?_
    rotate_left
    focus ((intro w hSw; (try dsimp only at hSw); go_simp); (all_goals with_reducible rfl))
    (try simp only [Act.put, List.setIfInBounds_toArray, List.set_cons_zero, List.set_cons_succ])
    refine wpAnyH_take (i := 6) (oi := _) (v := ?_) (by simp only [List.getElem?_toArray, List.getElem?_cons_zero, List.getElem?_cons_succ]; rfl) (by kernel_rfl) (by kernel_rfl) (by kernel_rfl) (by intro _ _ _ h; exact h) (Or.inl ⟨by rfl, ?_⟩) (by assumption) ?_
    rotate_left
    focus ((intro w hSw; (try dsimp only at hSw); go_simp); (all_goals with_reducible rfl))
    (try simp only [Act.put, List.setIfInBounds_toArray, List.set_cons_zero, List.set_cons_succ])
    refine wpAnyH_take (i := 7) (oi := _) (v := ?_) (by simp only [List.getElem?_toArray, List.getElem?_cons_zero, List.getElem?_cons_succ]; rfl) (by kernel_rfl) (by kernel_rfl) (by kernel_rfl) (by intro _ _ _ h; exact h) (Or.inl ⟨by rfl, ?_⟩) (by assumption) ?_
    rotate_left
    focus ((intro w hSw; (try dsimp only at hSw); go_simp); (all_goals with_reducible rfl))
    (try simp only [Act.put, List.setIfInBounds_toArray, List.set_cons_zero, List.set_cons_succ])
    refine wpAnyH_take (i := 8) (oi := _) (v := ?_) (by simp only [List.getElem?_toArray, List.getElem?_cons_zero, List.getElem?_cons_succ]; rfl) (by kernel_rfl) (by kernel_rfl) (by kernel_rfl) (by intro _ _ _ h; exact h) (Or.inl ⟨by rfl, ?_⟩) (by assumption) ?_
    rotate_left
    focus ((intro w hSw; (try dsimp only at hSw); go_simp); (all_goals with_reducible rfl))
    (try simp only [Act.put, List.setIfInBounds_toArray, List.set_cons_zero, List.set_cons_succ])
    refine wpAnyH_take (i := 9) (oi := _) (v := ?_) (by simp only [List.getElem?_toArray, List.getElem?_cons_zero, List.getElem?_cons_succ]; rfl) (by kernel_rfl) (by kernel_rfl) (by kernel_rfl) (by intro _ _ _ h; exact h) (Or.inl ⟨by rfl, ?_⟩) (by assumption) ?_
    rotate_left
    focus ((intro w hSw; (try dsimp only at hSw); go_simp); (all_goals with_reducible rfl))
    (try simp only [Act.put, List.setIfInBounds_toArray, List.set_cons_zero, List.set_cons_succ])
    refine wpAnyH_take (i := 10) (oi := _) (v := ?_) (by simp only [List.getElem?_toArray, List.getElem?_cons_zero, List.getElem?_cons_succ]; rfl) (by kernel_rfl) (by kernel_rfl) (by kernel_rfl) (by intro _ _ _ h; exact h) (Or.inl ⟨by rfl, ?_⟩) (by assumption) ?_
    rotate_left
    focus ((intro w hSw; (try dsimp only at hSw); go_simp); (all_goals with_reducible rfl))
    (try simp only [Act.put, List.setIfInBounds_toArray, List.set_cons_zero, List.set_cons_succ])
    refine wpAnyH_take (i := 11) (oi := _) (v := ?_) (by simp only [List.getElem?_toArray, List.getElem?_cons_zero, List.getElem?_cons_succ]; rfl) (by kernel_rfl) (by kernel_rfl) (by kernel_rfl) (by intro _ _ _ h; exact h) (Or.inl ⟨by rfl, ?_⟩) (by assumption) ?_
    rotate_left
    focus ((intro w hSw; (try dsimp only at hSw); go_simp); (all_goals with_reducible rfl))
    (try simp only [Act.put, List.setIfInBounds_toArray, List.set_cons_zero, List.set_cons_succ])
    refine wpAnyH_take (i := 12) (oi := _) (v := ?_) (by simp only [List.getElem?_toArray, List.getElem?_cons_zero, List.getElem?_cons_succ]; rfl) (by kernel_rfl) (by kernel_rfl) (by kernel_rfl) (by intro _ _ _ h; exact h) (Or.inl ⟨by rfl, ?_⟩) (by assumption) ?_
    rotate_left
    focus ((intro w hSw; (try dsimp only at hSw); go_simp); (all_goals with_reducible rfl))
    (try simp only [Act.put, List.setIfInBounds_toArray, List.set_cons_zero, List.set_cons_succ])
    refine wpAnyH_take (i := 13) (oi := _) (v := ?_) (by simp only [List.getElem?_toArray, List.getElem?_cons_zero, List.getElem?_cons_succ]; rfl) (by kernel_rfl) (by kernel_rfl) (by kernel_rfl) (by intro _ _ _ h; exact h) (Or.inl ⟨by rfl, ?_⟩) (by assumption) ?_
    rotate_left
    focus ((intro w hSw; (try dsimp only at hSw); go_simp); (all_goals with_reducible rfl))
    (try simp only [Act.put, List.setIfInBounds_toArray, List.set_cons_zero, List.set_cons_succ])
    refine wpAnyH_take (i := 14) (oi := _) (v := undef) (by simp only [List.getElem?_toArray, List.getElem?_cons_zero, List.getElem?_cons_succ]; rfl) (by kernel_rfl) (by kernel_rfl) (by kernel_rfl) (by intro _ _ _ h; exact h) (Or.inr ⟨by rfl, rfl⟩) (by assumption) ?_
    (try simp only [Act.put, List.setIfInBounds_toArray, List.set_cons_zero, List.set_cons_succ])
    refine wpAnyH_take (i := 15) (oi := _) (v := undef) (by simp only [List.getElem?_toArray, List.getElem?_cons_zero, List.getElem?_cons_succ]; rfl) (by kernel_rfl) (by kernel_rfl) (by kernel_rfl) (by intro _ _ _ h; exact h) (Or.inr ⟨by rfl, rfl⟩) (by assumption) ?_
    (try simp only [Act.put, List.setIfInBounds_toArray, List.set_cons_zero, List.set_cons_succ])
    refine wpAnyH_take (i := 16) (oi := _) (v := undef) (by simp only [List.getElem?_toArray, List.getElem?_cons_zero, List.getElem?_cons_succ]; rfl) (by kernel_rfl) (by kernel_rfl) (by kernel_rfl) (by intro _ _ _ h; exact h) (Or.inr ⟨by rfl, rfl⟩) (by assumption) ?_
    (try simp only [Act.put, List.setIfInBounds_toArray, List.set_cons_zero, List.set_cons_succ])
    refine wpAnyH_take (i := 17) (oi := _) (v := undef) (by simp only [List.getElem?_toArray, List.getElem?_cons_zero, List.getElem?_cons_succ]; rfl) (by kernel_rfl) (by kernel_rfl) (by kernel_rfl) (by intro _ _ _ h; exact h) (Or.inr ⟨by rfl, rfl⟩) (by assumption) ?_
    (try simp only [Act.put, List.setIfInBounds_toArray, List.set_cons_zero, List.set_cons_succ])
    refine wpAnyH_take (i := 18) (oi := _) (v := undef) (by simp only [List.getElem?_toArray, List.getElem?_cons_zero, List.getElem?_cons_succ]; rfl) (by kernel_rfl) (by kernel_rfl) (by kernel_rfl) (by intro _ _ _ h; exact h) (Or.inr ⟨by rfl, rfl⟩) (by assumption) ?_
    (try simp only [Act.put, List.setIfInBounds_toArray, List.set_cons_zero, List.set_cons_succ])
    refine wpAnyH_take (i := 19) (oi := _) (v := undef) (by simp only [List.getElem?_toArray, List.getElem?_cons_zero, List.getElem?_cons_succ]; rfl) (by kernel_rfl) (by kernel_rfl) (by kernel_rfl) (by intro _ _ _ h; exact h) (Or.inr ⟨by rfl, rfl⟩) (by assumption) ?_
    (try simp only [Act.put, List.setIfInBounds_toArray, List.set_cons_zero, List.set_cons_succ])
    refine wpAnyH_take (i := 20) (oi := _) (v := undef) (by simp only [List.getElem?_toArray, List.getElem?_cons_zero, List.getElem?_cons_succ]; rfl) (by kernel_rfl) (by kernel_rfl) (by kernel_rfl) (by intro _ _ _ h; exact h) (Or.inr ⟨by rfl, rfl⟩) (by assumption) ?_
    (try simp only [Act.put, List.setIfInBounds_toArray, List.set_cons_zero, List.set_cons_succ])
    refine wpAnyH_take (i := 21) (oi := _) (v := undef) (by simp only [List.getElem?_toArray, List.getElem?_cons_zero, List.getElem?_cons_succ]; rfl) (by kernel_rfl) (by kernel_rfl) (by kernel_rfl) (by intro _ _ _ h; exact h) (Or.inr ⟨by rfl, rfl⟩) (by assumption) ?_
    (try simp only [Act.put, List.setIfInBounds_toArray, List.set_cons_zero, List.set_cons_succ])
    refine wpAnyH_take (i := 22) (oi := _) (v := undef) (by simp only [List.getElem?_toArray, List.getElem?_cons_zero, List.getElem?_cons_succ]; rfl) (by kernel_rfl) (by kernel_rfl) (by kernel_rfl) (by intro _ _ _ h; exact h) (Or.inr ⟨by rfl, rfl⟩) (by assumption) ?_
    (try simp only [Act.put, List.setIfInBounds_toArray, List.set_cons_zero, List.set_cons_succ])
    refine wpAnyH_take (i := 23) (oi := _) (v := undef) (by simp only [List.getElem?_toArray, List.getElem?_cons_zero, List.getElem?_cons_succ]; rfl) (by kernel_rfl) (by kernel_rfl) (by kernel_rfl) (by intro _ _ _ h; exact h) (Or.inr ⟨by rfl, rfl⟩) (by assumption) ?_
    (try simp only [Act.put, List.setIfInBounds_toArray, List.set_cons_zero, List.set_cons_succ])
    refine wpAnyH_take (i := 24) (oi := _) (v := ?_) (by simp only [List.getElem?_toArray, List.getElem?_cons_zero, List.getElem?_cons_succ]; rfl) (by kernel_rfl) (by kernel_rfl) (by kernel_rfl) (by intro _ _ _ h; exact h) (Or.inl ⟨by rfl, ?_⟩) (by assumption) ?_
    rotate_left
    focus ((intro w hSw; (try dsimp only at hSw); go_simp); (all_goals with_reducible rfl))
    (try simp only [Act.put, List.setIfInBounds_toArray, List.set_cons_zero, List.set_cons_succ])
    refine wpAnyH_take (i := 25) (oi := _) (v := ?_) (by simp only [List.getElem?_toArray, List.getElem?_cons_zero, List.getElem?_cons_succ]; rfl) (by kernel_rfl) (by kernel_rfl) (by kernel_rfl) (by intro _ _ _ h; exact h) (Or.inl ⟨by rfl, ?_⟩) (by assumption) ?_
    rotate_left
    focus ((intro w hSw; (try dsimp only at hSw); go_simp); (all_goals with_reducible rfl))
    (try simp only [Act.put, List.setIfInBounds_toArray, List.set_cons_zero, List.set_cons_succ])
    refine wpAnyH_take (i := 26) (oi := _) (v := ?_) (by simp only [List.getElem?_toArray, List.getElem?_cons_zero, List.getElem?_cons_succ]; rfl) (by kernel_rfl) (by kernel_rfl) (by kernel_rfl) (by intro _ _ _ h; exact h) (Or.inl ⟨by rfl, ?_⟩) (by assumption) ?_
    rotate_left
    focus ((intro w hSw; (try dsimp only at hSw); go_simp); (all_goals with_reducible rfl))
    (try simp only [Act.put, List.setIfInBounds_toArray, List.set_cons_zero, List.set_cons_succ])
    refine wpAnyH_take (i := 27) (oi := _) (v := ?_) (by simp only [List.getElem?_toArray, List.getElem?_cons_zero, List.getElem?_cons_succ]; rfl) (by kernel_rfl) (by kernel_rfl) (by kernel_rfl) (by intro _ _ _ h; exact h) (Or.inl ⟨by rfl, ?_⟩) (by assumption) ?_
    rotate_left
    focus ((intro w hSw; (try dsimp only at hSw); go_simp); (all_goals with_reducible rfl))
    (try simp only [Act.put, List.setIfInBounds_toArray, List.set_cons_zero, List.set_cons_succ])
    refine wpAnyH_take (i := 28) (oi := _) (v := ?_) (by simp only [List.getElem?_toArray, List.getElem?_cons_zero, List.getElem?_cons_succ]; rfl) (by kernel_rfl) (by kernel_rfl) (by kernel_rfl) (by intro _ _ _ h; exact h) (Or.inl ⟨by rfl, ?_⟩) (by assumption) ?_
    rotate_left
    focus ((intro w hSw; (try dsimp only at hSw); go_simp); (all_goals with_reducible rfl))
    (try simp only [Act.put, List.setIfInBounds_toArray, List.set_cons_zero, List.set_cons_succ])
    refine wpAnyH_take (i := 29) (oi := _) (v := ?_) (by simp only [List.getElem?_toArray, List.getElem?_cons_zero, List.getElem?_cons_succ]; rfl) (by kernel_rfl) (by kernel_rfl) (by kernel_rfl) (by intro _ _ _ h; exact h) (Or.inl ⟨by rfl, ?_⟩) (by assumption) ?_
    rotate_left
    focus ((intro w hSw; (try dsimp only at hSw); go_simp); (all_goals with_reducible rfl))
    (try simp only [Act.put, List.setIfInBounds_toArray, List.set_cons_zero, List.set_cons_succ])
    refine wpAnyH_take (i := 30) (oi := _) (v := ?_) (by simp only [List.getElem?_toArray, List.getElem?_cons_zero, List.getElem?_cons_succ]; rfl) (by kernel_rfl) (by kernel_rfl) (by kernel_rfl) (by intro _ _ _ h; exact h) (Or.inl ⟨by rfl, ?_⟩) (by assumption) ?_
    rotate_left
    focus ((intro w hSw; (try dsimp only at hSw); go_simp); (all_goals with_reducible rfl))
    (try simp only [Act.put, List.setIfInBounds_toArray, List.set_cons_zero, List.set_cons_succ])
    refine wpAnyH_take (i := 31) (oi := _) (v := ?_) (by simp only [List.getElem?_toArray, List.getElem?_cons_zero, List.getElem?_cons_succ]; rfl) (by kernel_rfl) (by kernel_rfl) (by kernel_rfl) (by intro _ _ _ h; exact h) (Or.inl ⟨by rfl, ?_⟩) (by assumption) ?_
    rotate_left
    focus ((intro w hSw; (try dsimp only at hSw); go_simp); (all_goals with_reducible rfl))
    (try simp only [Act.put, List.setIfInBounds_toArray, List.set_cons_zero, List.set_cons_succ])
    refine wpAnyH_take (i := 32) (oi := _) (v := ?_) (by simp only [List.getElem?_toArray, List.getElem?_cons_zero, List.getElem?_cons_succ]; rfl) (by kernel_rfl) (by kernel_rfl) (by kernel_rfl) (by intro _ _ _ h; exact h) (Or.inl ⟨by rfl, ?_⟩) (by assumption) ?_
    rotate_left
    focus ((intro w hSw; (try dsimp only at hSw); go_simp); (all_goals with_reducible rfl))
    (try simp only [Act.put, List.setIfInBounds_toArray, List.set_cons_zero, List.set_cons_succ])
    refine wpAnyH_take (i := 33) (oi := _) (v := ?_) (by simp only [List.getElem?_toArray, List.getElem?_cons_zero, List.getElem?_cons_succ]; rfl) (by kernel_rfl) (by kernel_rfl) (by kernel_rfl) (by intro _ _ _ h; exact h) (Or.inl ⟨by rfl, ?_⟩) (by assumption) ?_
    rotate_left
    focus ((intro w hSw; (try dsimp only at hSw); go_simp); (all_goals with_reducible rfl))
    (try simp only [Act.put, List.setIfInBounds_toArray, List.set_cons_zero, List.set_cons_succ])
    refine wpAnyH_ready (rs := [34]) (by kernel_rfl) (by simp) ?_
    refine AllReadyH.cons (o := _) (by simp only [List.getElem?_toArray, List.getElem?_cons_zero, List.getElem?_cons_succ]; rfl) (fun K hK => ?_) AllReadyH.nil
    go_simp
    (go_at_call 33; (with_reducible refine (awake29_c _).mono ?_); rintro e W6 ⟨rfl, hb⟩; replace B := Aside0.mk (below_then B.out B.out.size hb); replace HA := Aside0.mk (HA.out.below hb); replace HX := Aside0.mk (HX.out.below hb); replace X := Aside0.mk (X.out.below hb); replace hx := fun i => X.out.cell i; replace P := Aside0.mk (P.out.below hb); replace hp := fun i => P.out.cell i; replace Q := Aside0.mk (Q.out.below hb); replace hq := fun i => Q.out.cell i; replace U := Aside0.mk (U.out.below hb); replace hu := fun i => U.out.cell i; clear  hb)
    refine hK.out _ _ ?_ (fun hHeld2 => ?_)
    · exact ⟨fun i => X.out.cell i, fun i => Q.out.cell i, fun i => U.out.cell i⟩
    clear hK K hHeld
    (try simp only [Act.put, List.setIfInBounds_toArray, List.set_cons_zero, List.set_cons_succ])
    refine wpAnyH_take (i := 35) (oi := _) (v := ?_) (by simp only [List.getElem?_toArray, List.getElem?_cons_zero, List.getElem?_cons_succ]; rfl) (by kernel_rfl) (by kernel_rfl) (by kernel_rfl) (by intro _ _ _ h; exact h) (Or.inl ⟨by rfl, ?_⟩) (by assumption) ?_
    rotate_left
    focus ((intro w hSw; (try dsimp only at hSw); go_simp); (all_goals with_reducible rfl))
    (try simp only [Act.put, List.setIfInBounds_toArray, List.set_cons_zero, List.set_cons_succ])
    refine wpAnyH_take (i := 36) (oi := _) (v := ?_) (by simp only [List.getElem?_toArray, List.getElem?_cons_zero, List.getElem?_cons_succ]; rfl) (by kernel_rfl) (by kernel_rfl) (by kernel_rfl) (by intro _ _ _ h; exact h) (Or.inl ⟨by rfl, ?_⟩) (by assumption) ?_
    rotate_left
    focus ((intro w hSw; (try dsimp only at hSw); go_simp); (all_goals with_reducible rfl))
    (try simp only [Act.put, List.setIfInBounds_toArray, List.set_cons_zero, List.set_cons_succ])
    refine wpAnyH_done (by kernel_rfl) ?_ _
    all_goals go_wp2_with fail
    all_goals go_ret
    all_goals exact ⟨rfl, B.out⟩
  have e2' : g2 = placeR b2 (a.f0 - tt) := by exact e2.resolve_left c3
  have r1 : ∀ W, Calls Try.prog 12 #[.int .i64 b2, .int .i64 (IntKind.i64.wrap (a.f0 - tt))] W fun e w' => e = .returned (.int .i64 g2) ∧ Below W.heap.size W w' := by
    intro W
    rw [hwr, e2']
    exact refPlace_u b2 _ hp W
  have N3 := Aside0.mk n3
  have R1 := Aside0.mk r1
  have d4 : (g1 == 2) = false := beq_eq_false_iff_ne.2 c3
  have d5 : (g1 == g1) = true := beq_self_eq_true _
  have d6 : (g2 == g2) = true := beq_self_eq_true _
  clear c3 e2 e2' e3 hp hwr n1 n2 n3 hx hb hg wx n5 n6 n7 n8 hb1 hwa htt hWa hk r1
  obtain ⟨A5a, c5a, A6a, c6a, A7a, c7a, A8a, c8a, e, -⟩ := hua.open_
  subst e
  have B := Aside0.mk (below_alloc (Below.refl w.heap.size w) (.cells #[.int .i64 a.f0, .int .u64 a.f1, .int .u64 a.f2, .int .u64 a.f3, .int .u64 a.f4, .slice A5a a.f5.length c5a, .slice A6a a.f6.length c6a, .slice A7a a.f7.length c7a, .slice A8a a.f8.length c8a] 30))
  have X := Aside0.mk (Blk.new w #[.int .i64 a.f0, .int .u64 a.f1, .int .u64 a.f2, .int .u64 a.f3, .int .u64 a.f4, .slice A5a a.f5.length c5a, .slice A6a a.f6.length c6a, .slice A7a a.f7.length c7a, .slice A8a a.f8.length c8a] 30)
  have hx := fun i => X.out.cell i
  have HA := Aside0.mk (hua.below B.out)
  clear hua
  go_enter Try.func10, Try.ntmps10
  go_wp2_with (first | (go_at_call 32; (with_reducible refine (CS.out _ _ HA.out).mono ?_); rintro e W1 ⟨rfl, hb⟩; replace B := Aside0.mk (below_then B.out B.out.size hb); replace HA := Aside0.mk (HA.out.below hb); replace X := Aside0.mk (X.out.below hb); replace hx := fun i => X.out.cell i; clear  hb) | (go_at_call 15; (with_reducible refine (N1.out _ _ HA.out).mono ?_); rintro e W2 ⟨D5x, g5x, D6x, g6x, D7x, g7x, D8x, g8x, rfl, hh, hb⟩; replace B := Aside0.mk (below_then B.out B.out.size hb); replace HA := Aside0.mk (HA.out.below hb); replace X := Aside0.mk (X.out.below hb); replace hx := fun i => X.out.cell i; have HX := Aside0.mk hh; have hxa := fun i => (X.out.alloc (.cells #[.int .i64 x.f0, .int .u64 x.f1, .int .u64 x.f2, .int .u64 x.f3, .int .u64 x.f4, .slice D5x x.f5.length g5x, .slice D6x x.f6.length g6x, .slice D7x x.f7.length g7x, .slice D8x x.f8.length g8x] 30)).cell i; clear hh hb))
  (try clear hxa)
  have hal := below_alloc (Below.refl W2.heap.size W2) (.cells #[.int .i64 x.f0, .int .u64 x.f1, .int .u64 x.f2, .int .u64 x.f3, .int .u64 x.f4, .slice D5x x.f5.length g5x, .slice D6x x.f6.length g6x, .slice D7x x.f7.length g7x, .slice D8x x.f8.length g8x] 30)
  replace B := Aside0.mk (below_then B.out B.out.size hal)
  replace HA := Aside0.mk (HA.out.below hal)
  replace HX := Aside0.mk (HX.out.below hal)
  replace X := Aside0.mk (X.out.alloc (.cells #[.int .i64 x.f0, .int .u64 x.f1, .int .u64 x.f2, .int .u64 x.f3, .int .u64 x.f4, .slice D5x x.f5.length g5x, .slice D6x x.f6.length g6x, .slice D7x x.f7.length g7x, .slice D8x x.f8.length g8x] 30)); replace hx := fun i => X.out.cell i
  have P := Aside0.mk (Blk.new W2 #[.int .i64 x.f0, .int .u64 x.f1, .int .u64 x.f2, .int .u64 x.f3, .int .u64 x.f4, .slice D5x x.f5.length g5x, .slice D6x x.f6.length g6x, .slice D7x x.f7.length g7x, .slice D8x x.f8.length g8x] 30); have hp := fun i => P.out.cell i; clear hal
  go_wp2_with (first | (go_at_call 34; (with_reducible refine (N2.out _ _ HA.out).mono ?_); rintro e W3 ⟨rfl, hb⟩; replace B := Aside0.mk (below_then B.out B.out.size hb); replace HA := Aside0.mk (HA.out.below hb); replace HX := Aside0.mk (HX.out.below hb); replace X := Aside0.mk (X.out.below hb); replace hx := fun i => X.out.cell i; replace P := Aside0.mk (P.out.below hb); replace hp := fun i => P.out.cell i; have hxa := fun i => (X.out.alloc (.cells #[.int .i64 g1, .int .i64 b2, .int .u64 b3] 75)).cell i; have hpa := fun i => (P.out.alloc (.cells #[.int .i64 g1, .int .i64 b2, .int .u64 b3] 75)).cell i; clear  hb))
  (try clear hxa hpa)
  have hal := below_alloc (Below.refl W3.heap.size W3) (.cells #[.int .i64 g1, .int .i64 b2, .int .u64 b3] 75)
  replace B := Aside0.mk (below_then B.out B.out.size hal)
  replace HA := Aside0.mk (HA.out.below hal)
  replace HX := Aside0.mk (HX.out.below hal)
  replace X := Aside0.mk (X.out.alloc (.cells #[.int .i64 g1, .int .i64 b2, .int .u64 b3] 75)); replace hx := fun i => X.out.cell i
  replace P := Aside0.mk (P.out.alloc (.cells #[.int .i64 g1, .int .i64 b2, .int .u64 b3] 75)); replace hp := fun i => P.out.cell i
  have Q := Aside0.mk (Blk.new W3 #[.int .i64 g1, .int .i64 b2, .int .u64 b3] 75); have hq := fun i => Q.out.cell i; clear hal
  go_wp2_with (first | (go_at_call 34; (with_reducible refine (N3.out _ _ HX.out).mono ?_); rintro e W4 ⟨rfl, hb⟩; replace B := Aside0.mk (below_then B.out B.out.size hb); replace HA := Aside0.mk (HA.out.below hb); replace HX := Aside0.mk (HX.out.below hb); replace X := Aside0.mk (X.out.below hb); replace hx := fun i => X.out.cell i; replace P := Aside0.mk (P.out.below hb); replace hp := fun i => P.out.cell i; replace Q := Aside0.mk (Q.out.below hb); replace hq := fun i => Q.out.cell i; have hxa := fun i => (X.out.alloc (.cells #[.int .i64 g1, .int .i64 g2, .int .u64 g3] 75)).cell i; have hpa := fun i => (P.out.alloc (.cells #[.int .i64 g1, .int .i64 g2, .int .u64 g3] 75)).cell i; have hqa := fun i => (Q.out.alloc (.cells #[.int .i64 g1, .int .i64 g2, .int .u64 g3] 75)).cell i; clear  hb))
  (try clear hxa hpa hqa)
  have hal := below_alloc (Below.refl W4.heap.size W4) (.cells #[.int .i64 g1, .int .i64 g2, .int .u64 g3] 75)
  replace B := Aside0.mk (below_then B.out B.out.size hal)
  replace HA := Aside0.mk (HA.out.below hal)
  replace HX := Aside0.mk (HX.out.below hal)
  replace X := Aside0.mk (X.out.alloc (.cells #[.int .i64 g1, .int .i64 g2, .int .u64 g3] 75)); replace hx := fun i => X.out.cell i
  replace P := Aside0.mk (P.out.alloc (.cells #[.int .i64 g1, .int .i64 g2, .int .u64 g3] 75)); replace hp := fun i => P.out.cell i
  replace Q := Aside0.mk (Q.out.alloc (.cells #[.int .i64 g1, .int .i64 g2, .int .u64 g3] 75)); replace hq := fun i => Q.out.cell i
  have U := Aside0.mk (Blk.new W4 #[.int .i64 g1, .int .i64 g2, .int .u64 g3] 75); have hu := fun i => U.out.cell i; clear hal
  replace HA := Aside0.mk (HA.out.below (below_drew (Below.refl _ _)))
  replace HX := Aside0.mk (HX.out.below (below_drew (Below.refl _ _)))
  replace X := Aside0.mk (X.out.below (below_drew (Below.refl _ _)))
  replace P := Aside0.mk (P.out.below (below_drew (Below.refl _ _)))
  replace Q := Aside0.mk (Q.out.below (below_drew (Below.refl _ _)))
  replace U := Aside0.mk (U.out.below (below_drew (Below.refl _ _)))
  replace B := Aside0.mk (below_drew B.out)
  go_region_held3 (fun W => (∀ i, W.cell? ⟨w.heap.size, i, none⟩ = (#[.int .i64 a.f0, .int .u64 a.f1, .int .u64 a.f2, .int .u64 a.f3, .int .u64 a.f4, .slice A5a a.f5.length c5a, .slice A6a a.f6.length c6a, .slice A7a a.f7.length c7a, .slice A8a a.f8.length c8a] : Array Value)[i]?) ∧ (∀ i, W.cell? ⟨W3.heap.size, i, none⟩ = (#[.int .i64 g1, .int .i64 b2, .int .u64 b3] : Array Value)[i]?) ∧ (∀ i, W.cell? ⟨W4.heap.size, i, none⟩ = (#[.int .i64 g1, .int .i64 g2, .int .u64 g3] : Array Value)[i]?)) (exact ⟨fun i => X.out.cell i, fun i => Q.out.cell i, fun i => U.out.cell i⟩) (first | (go_at_call 12; (with_reducible refine (R1.out _).mono ?_); rintro e W5 ⟨rfl, hb⟩; replace B := Aside0.mk (below_then B.out B.out.size hb); replace HA := Aside0.mk (HA.out.below hb); replace HX := Aside0.mk (HX.out.below hb); replace X := Aside0.mk (X.out.below hb); replace hx := fun i => X.out.cell i; replace P := Aside0.mk (P.out.below hb); replace hp := fun i => P.out.cell i; replace Q := Aside0.mk (Q.out.below hb); replace hq := fun i => Q.out.cell i; replace U := Aside0.mk (U.out.below hb); replace hu := fun i => U.out.cell i; clear  hb) | (go_at_call 33; (with_reducible refine (awake29_c _).mono ?_); rintro e W6 ⟨rfl, hb⟩; replace B := Aside0.mk (below_then B.out B.out.size hb); replace HA := Aside0.mk (HA.out.below hb); replace HX := Aside0.mk (HX.out.below hb); replace X := Aside0.mk (X.out.below hb); replace hx := fun i => X.out.cell i; replace P := Aside0.mk (P.out.below hb); replace hp := fun i => P.out.cell i; replace Q := Aside0.mk (Q.out.below hb); replace hq := fun i => Q.out.cell i; replace U := Aside0.mk (U.out.below hb); replace hu := fun i => U.out.cell i; clear  hb))
  all_goals go_wp2_with fail
  all_goals go_ret
  all_goals exact ⟨rfl, B.out⟩
def tidepolelaw29_RankScales.f (s0 z0 zc0 ct0 sm0 : Int) (l0_5 l0_6 : List Sp) (l0_7 l0_8 : List Int) (tt : Int) (k : Int) : Option Bool := if wfI ⟨s0, z0, zc0, ct0, sm0, l0_5, l0_6, l0_7, l0_8⟩ ∧ i64 tt ∧ u64 k then some true else none
theorem tidepolelaw29_RankScales.calls (s0 : Int) (z0 : Int) (zc0 : Int) (ct0 : Int) (sm0 : Int) (A0_5 : Option Addr) (c0_5 : Nat) (l0_5 : List Sp) (A0_6 : Option Addr) (c0_6 : Nat) (l0_6 : List Sp) (A0_7 : Option Addr) (c0_7 : Nat) (l0_7 : List Int) (A0_8 : Option Addr) (c0_8 : Nat) (l0_8 : List Int) (tt : Int) (k : Int) (r : Bool) (w : World) (hr0_5 : Kd.C kSp w A0_5 l0_5.length l0_5) (hc0_5 : l0_5.length ≤ c0_5) (hr0_6 : Kd.C kSp w A0_6 l0_6.length l0_6) (hc0_6 : l0_6.length ≤ c0_6) (hr0_7 : Kd.C (Kd.int .i64) w A0_7 l0_7.length l0_7) (hc0_7 : l0_7.length ≤ c0_7) (hr0_8 : Kd.C (Kd.int .i64) w A0_8 l0_8.length l0_8) (hc0_8 : l0_8.length ≤ c0_8) (h : tidepolelaw29_RankScales.f s0 z0 zc0 ct0 sm0 l0_5 l0_6 l0_7 l0_8 tt k = some r) :
    Calls Try.prog 10 #[.agg #[.int .i64 s0, .int .u64 z0, .int .u64 zc0, .int .u64 ct0, .int .u64 sm0, .slice A0_5 l0_5.length c0_5, .slice A0_6 l0_6.length c0_6, .slice A0_7 l0_7.length c0_7, .slice A0_8 l0_8.length c0_8], .int .i64 tt, .int .u64 k] w fun e w' => e = .returned (.bool r) ∧ Below w.heap.size w w' := by
  obtain ⟨⟨q0, q1, q2⟩, rfl⟩ := of_ite_some h
  exact rankScales_c _ _ _ q0 q1 q2 w _ _ _ rfl rfl (HI.mk (h := ⟨s0, z0, zc0, ct0, sm0, l0_5, l0_6, l0_7, l0_8⟩) (.of hr0_5 hc0_5) (.of hr0_6 hc0_6) (.of hr0_7 hc0_7) (.of hr0_8 hc0_8))
end Go.Proofs.Ytgkplhdcafbfbaa.P
namespace Go.Proofs.Ytgkplhdcafbfbaa.P
def headSigns : List Char := List.map Char.ofNat [104, 97, 114, 110, 101, 115, 115, 32, 48, 57, 48, 56, 53, 100, 56, 99, 51, 55, 101, 56, 50, 49, 53, 48, 57, 56, 101, 48, 49, 53, 51, 97, 99, 99, 48, 52, 50, 54, 48, 49, 53, 57, 50, 102, 50, 57, 100, 102, 50, 49, 99, 99, 57, 99, 51, 52, 101, 49, 57, 51, 98, 48, 55, 51, 55, 49, 53, 100, 98, 97, 101, 100, 32, 99, 117, 116, 32, 97, 116, 32, 116, 105, 100, 101, 112, 111, 108, 101, 47, 116, 105, 100, 101, 112, 111, 108, 101, 108, 97, 119, 50, 53, 46, 83, 99, 97, 108, 101, 80, 108, 97, 99, 101, 115, 32, 116, 105, 100, 101, 112, 111, 108, 101, 47, 116, 105, 100, 101, 112, 111, 108, 101, 108, 97, 119, 50, 53, 46, 83, 99, 97, 108, 101, 73, 110, 116, 115, 32, 116, 105, 100, 101, 112, 111, 108, 101, 47, 116, 105, 100, 101, 112, 111, 108, 101, 108, 97, 119, 50, 53, 46, 83, 99, 97, 108, 101, 70, 108, 111, 97, 116, 115, 32, 116, 105, 100, 101, 112, 111, 108, 101, 47, 116, 105, 100, 101, 112, 111, 108, 101, 108, 97, 119, 50, 53, 46, 83, 99, 97, 108, 101, 75, 101, 101, 112, 115, 32, 116, 105, 100, 101, 112, 111, 108, 101, 47, 116, 105, 100, 101, 112, 111, 108, 101, 108, 97, 119, 50, 53, 46, 83, 99, 97, 108, 101, 70, 105, 116, 115, 32, 116, 105, 100, 101, 112, 111, 108, 101, 47, 116, 105, 100, 101, 112, 111, 108, 101, 108, 97, 119, 50, 53, 46, 83, 99, 97, 108, 101, 84, 119, 105, 99, 101, 32, 116, 105, 100, 101, 112, 111, 108, 101, 47, 116, 105, 100, 101, 112, 111, 108, 101, 108, 97, 119, 50, 53, 46, 83, 99, 97, 108, 101, 82, 101, 115, 101, 116, 115, 32, 116, 105, 100, 101, 112, 111, 108, 101, 47, 116, 105, 100, 101, 112, 111, 108, 101, 108, 97, 119, 50, 57, 46, 82, 97, 110, 107, 83, 99, 97, 108, 101, 115]
theorem head_is : Try.prog.initOrder = String.ofList headSigns := by kernel_rfl
theorem head_signs : Try.prog.initOrder.toList = headSigns := by rw [head_is]; exact String.toList_ofList
theorem head_first : (behindMainWord (wordsSigns headSigns)).head? = some "cut".toList := by kernel_rfl
theorem head_words : ∃ r, behindMainWord (wordsSigns headSigns) = "cut".toList :: r := by have h := head_first; cases h2 : behindMainWord (wordsSigns headSigns) with | nil => rw [h2] at h; cases h | cons c r => rw [h2] at h; injection h with h; exact ⟨r, by rw [h]⟩
theorem strip_cut (r : List (List Char)) : stripLifts liftWords ("cut".toList :: r) = ([], "cut".toList :: r) := by kernel_rfl
theorem head_lifts : Try.prog.headLifts = [] := by obtain ⟨r, hr⟩ := head_words; unfold Program.headLifts; rw [head_signs, hr, strip_cut]; kernel_rfl
theorem head_doorFits : Try.prog.doorFits [] = true := by kernel_rfl
theorem head_laysLater : Try.prog.laysLater = false := by kernel_rfl
theorem head_bearsReflect : Try.prog.bearsReflect = false := by kernel_rfl
theorem mayEnter_of {P : Program} {L : List Char} {r : List (List Char)} (h1 : P.initOrder.toList = L) (h2 : behindMainWord (wordsSigns L) = "cut".toList :: r) (h3 : P.doorFits [] = true) (h4 : P.laysLater = false) (h5 : P.bearsReflect = false) : P.mayEnter = true := by unfold Program.mayEnter; rw [h1, h2]; simp only [strip_cut, h3, h4, h5]; kernel_rfl
theorem head_mayEnter : Try.prog.mayEnter = true := by obtain ⟨r, hr⟩ := head_words; exact mayEnter_of head_signs hr head_doorFits head_laysLater head_bearsReflect
theorem head_liftsFinal : Try.prog.liftsFinal = false := by obtain ⟨r, hr⟩ := head_words; unfold Program.liftsFinal; rw [head_signs, head_lifts, hr]; kernel_rfl
theorem make_of {P : Program} {L : List Char} {r : List (List Char)} (h1 : P.initOrder.toList = L) (h2 : behindMainWord (wordsSigns L) = "cut".toList :: r) : P.make = some .cut := by unfold Program.make; rw [h1, h2]; kernel_rfl
theorem head_make : Try.prog.make = some .cut := by obtain ⟨r, hr⟩ := head_words; exact make_of head_signs hr
theorem head_laidOut : laidOutB Try.prog = true := by kernel_rfl
theorem head_mapsRowed : mapsRowed Try.prog = true := by kernel_rfl
theorem head_stops : (Try.prog.stops == []) = true := by kernel_rfl
theorem head_stopKnobs : (Try.prog.stopKnobs == []) = true := by kernel_rfl
theorem head_plainKeys : Try.prog.plainKeys = true := by kernel_rfl
theorem head_stopsHeard : Try.prog.stopsHeard = true := by kernel_rfl
end Go.Proofs.Ytgkplhdcafbfbaa.P
namespace Go.Proofs.Ytgkplhdcafbfbaa.Pure
open Go.RowKit Go.Proofs.Ytgkplhdcafbfbaa.P Go.Proofs.YtgkplhdcafbfbaaW.PrintWords
theorem RankScales : ∀ (x0 : S30) (a1 : Int) (a2 : Int), wf30 x0 → (inI .i64) a1 → (inI .u64) a2 → tidepolelaw29_RankScales.f x0.f0 x0.f1 x0.f2 x0.f3 x0.f4 x0.f5 x0.f6 x0.f7 x0.f8 a1 a2 = some true := fun _ _ _ h0 h1 h2 => if_pos ⟨wfI_of h0, i64_of h1, u64_of h2⟩
end Go.Proofs.Ytgkplhdcafbfbaa.Pure
namespace Go.Proofs.Ytgkplhdcafbfbaa.rankScales
open Go.ChangeShapes Go.WideShapes Go.ChangeAt Go.RowKit Go.Proofs.Ytgkplhdcafbfbaa.P Go.Proofs.YtgkplhdcafbfbaaW.PrintWords
theorem own : ownKnob Try.prog.godebug = none := by kernel_rfl
theorem laidOut : laidOutB Try.prog = true := by kernel_rfl
set_option maxRecDepth 100000 in
set_option maxHeartbeats 4000000 in
theorem lifted (os : Os) (started : os.Started) (H : Type) (enc : TypeId × Value → H) :
    ReturnsInHanded {} Try.checked os 10 .any (Rows.rankScalesSpec.pre6 enc Try.prog Try.f10 Rows.rankScalesRow.domain false) (Rows.rankScalesSpec.post enc Try.prog Try.f10 false true false false) := by
  refine returnsInHanded_of_change_sized (C := Try.checked) own started (by kernel_rfl) Try.func10
    (ChangeSpec.witness6 (enc := enc) (C := Try.checked) false ⟨#[], #[.agg #[.int .i64 0, .int .u64 0, .int .u64 0, .int .u64 0, .int .u64 0, .slice none 0 0, .slice none 0 0, .slice none 0 0, .slice none 0 0], .int .i64 0, .int .u64 0], []⟩ 8 (by kernel_rfl) (by kernel_rfl) (by kernel_rfl) (by kernel_rfl)) ?_
  intro W base args ds gs before hval0 hW hcnd hsz0 _
  have hval : ∀ (j : Nat) t v, Try.f10.params[j]? = some t → args[j]? = some v → Value.okWide Try.prog W .any base t v := hval0
  have hW' := hW
  obtain ⟨p, q, hA0, hV, rfl, hfz, hnd⟩ := hW
  have hA : DataW.TrodAll enc Try.prog W 0 (fun _ => true) true Try.f10.params.toList args.toList ds p := hA0
  rw [Try.params10] at hA hval
  obtain ⟨v0, vs0, d0, ds0, p0, q0, hargs, rfl, rfl, h0, r0⟩ := trodAll_cons hA
  obtain ⟨v1, vs1, d1, ds1, p1, q1, rfl, rfl, rfl, h1, r1⟩ := trodAll_cons r0
  obtain ⟨v2, vs2, d2, ds2, p2, q2, rfl, rfl, rfl, h2, r2⟩ := trodAll_cons r1
  obtain ⟨rfl, rfl, rfl⟩ := trodAll_nil r2
  obtain rfl : args = #[v0, v1, v2] := by cases args; simp_all
  obtain ⟨rfl, rfl⟩ := trodVars_none hV
  have k0 := h0
  have lt0 : ∀ x ∈ p0, x.block < W.heap.size := by obtain ⟨m, hm⟩ := k0; exact DataW.trod_lt m _ _ _ hm
  obtain ⟨fu0, hf0⟩ := h0
  obtain ⟨x0, hK0, w0⟩ := opens30 enc W 0 _ true fu0 _ _ hf0
  obtain ⟨cs0, rfl, _⟩ := okWide_struct Try.underlying30 (hval 0 30 v0 rfl rfl)
  obtain ⟨A0_5, c0_5, A0_6, c0_6, A0_7, c0_7, A0_8, c0_8, he0, h0_5_l, hC0_5, h0_6_l, hC0_6, h0_7_l, hC0_7, h0_8_l, hC0_8⟩ := k30_open hK0
  obtain rfl : cs0 = #[.int .i64 x0.f0, .int .u64 x0.f1, .int .u64 x0.f2, .int .u64 x0.f3, .int .u64 x0.f4, .slice A0_5 x0.f5.length c0_5, .slice A0_6 x0.f6.length c0_6, .slice A0_7 x0.f7.length c0_7, .slice A0_8 x0.f8.length c0_8] := by
    have he : cs0.toList = _ := he0
    exact Array.toList_inj.1 he
  obtain ⟨a1, rfl, rfl, rfl, w1⟩ := open_int Try.underlying3 (hval 1 3 v1 rfl rfl) h1
  obtain ⟨a2, rfl, rfl, rfl, w2⟩ := open_int Try.underlying26 (hval 2 26 v2 rfl rfl) h2
  clear hA0 hval0 hsz0
  obtain hk := Pure.RankScales x0 a1 a2 w0 w1 w2
  refine (P.tidepolelaw29_RankScales.calls x0.f0 x0.f1 x0.f2 x0.f3 x0.f4 A0_5 c0_5 x0.f5 A0_6 c0_6 x0.f6 A0_7 c0_7 x0.f7 A0_8 c0_8 x0.f8 a1 a2 true W hC0_5 h0_5_l hC0_6 h0_6_l hC0_7 h0_7_l hC0_8 h0_8_l hk).mono fun e W' ⟨he, bel⟩ => ?_
  subst he
  exact ⟨_, rfl, _, _, _, [], _, [], hW', trodAll_mk1 (shut_bool Try.underlying4 _), (trodAll_cons_mk (Below.trod laidOut (by kernel_rfl) (of_decide_eq_true (by kernel_rfl)) k0 bel lt0) (trodAll_cons_mk (shut_int Try.underlying3 w1) (trodAll_cons_mk (shut_int Try.underlying26 w2) trodAll_mk0))), rfl, bel.frame _, fun h => by cases h⟩
theorem cf0 : (Rows.rankScalesRow.wf (OpenSpec.ofChange Rows.rankScalesSpec)) = true := by kernel_rfl
theorem cf1 : (laidOutB Try.prog) = true := P.head_laidOut
theorem cf2 : (mapsRowed Try.prog) = true := P.head_mapsRowed
theorem cf3 : (Try.f10.params.all (Try.prog.readableRec ·)) = true := by kernel_rfl
theorem cf4 : (namedTie Try.prog Rows.rankScalesRow.named Rows.rankScalesSpec.vars) = true := by kernel_rfl
theorem cf5 : ((Rows.rankScalesRow.stops == [])) = true := by kernel_rfl
theorem cf6 : ((Try.prog.stops == [])) = true := P.head_stops
theorem cf7 : ((Rows.rankScalesRow.knobs == [])) = true := by kernel_rfl
theorem cf8 : ((Try.prog.stopKnobs == [])) = true := P.head_stopKnobs
theorem cf9 : ((Rows.rankScalesRow.inPlace == Try.prog.inPlace 10)) = true := by kernel_rfl
theorem cf10 : ((Rows.rankScalesRow.unfollowed == Try.prog.unfollowed 10)) = true := by kernel_rfl
theorem cf11 : ((Rows.rankScalesRow.recurses == Try.prog.recurses 10)) = true := by kernel_rfl
theorem cf12 : ((Rows.rankScalesRow.named == Try.prog.varsNamed 10)) = true := by kernel_rfl
theorem cf13 : ((Rows.rankScalesRow.maps == (Try.f10.params.toList ++ Rows.rankScalesSpec.plain.varTypes Try.prog).any (Try.prog.mapsRec ·))) = true := by kernel_rfl
theorem cf14 : ((Rows.rankScalesRow.ifaces == (Try.f10.params.toList ++ Rows.rankScalesSpec.plain.varTypes Try.prog).any (Try.prog.ifacesRec ·))) = true := by kernel_rfl
theorem cf15 : ((Rows.rankScalesRow.mapsOut == Try.prog.mapsAmong Try.f10.resultTypes.toList)) = true := by kernel_rfl
theorem cf16 : ((Rows.rankScalesRow.loops == (Try.f10.params.toList ++ Rows.rankScalesSpec.plain.varTypes Try.prog).any (Try.prog.loopsFrom ·))) = true := by kernel_rfl
theorem cf17 : ((Rows.rankScalesRow.wideKeys == (Try.f10.params.toList ++ Rows.rankScalesSpec.plain.varTypes Try.prog ++ Try.f10.resultTypes.toList).any (Try.prog.wideKeysFrom ·))) = true := by kernel_rfl
theorem cf18 : (Rows.rankScalesSpec.vars.all (Try.prog.varReadable ·)) = true := by kernel_rfl
theorem cf19 : (Try.f10.resultTypes.all (fun t => Try.prog.readableRec t && decide (t < Try.prog.types.size))) = true := by kernel_rfl
theorem cf20 : ((Rows.rankScalesRow.ifacesOut == Try.f10.resultTypes.toList.any (Try.prog.ifacesRec ·))) = true := by kernel_rfl
theorem cf21 : ((Rows.rankScalesRow.loopsOut == Try.f10.resultTypes.toList.any (Try.prog.loopsFrom ·))) = true := by kernel_rfl
theorem cf22 : ((Rows.rankScalesRow.plainKeys == Try.prog.plainKeys)) = true := by rw [P.head_plainKeys]; kernel_rfl
theorem cf23 : (Rows.rankScalesRow.shortTexts.isNone) = true := by kernel_rfl
theorem cf24 : (Try.prog.stopsHeard) = true := P.head_stopsHeard
theorem cf25 : (Try.prog.mayEnter) = true := P.head_mayEnter
theorem cf26 : ((Rows.rankScalesRow.lifted == Try.prog.liftsFinal)) = true := by rw [P.head_liftsFinal]; kernel_rfl
theorem cf27 : ((Try.prog.make == some Rows.rankScalesRow.make)) = true := by rw [P.head_make]; kernel_rfl
theorem cf28 : ((Rows.rankScalesRow.kinds == (if Rows.rankScalesRow.domain.isEmpty then [] else Try.f10.params.toList.map fun t => match Try.prog.underlying t with | some (.int k) => some k | _ => none))) = true := by kernel_rfl
theorem cf29 : ((Rows.rankScalesRow.pinned == Rows.rankScalesRow.pinnedBy)) = true := by kernel_rfl
theorem cf30 : ((Rows.rankScalesRow.veiled == (Try.f10.params.toList ++ Rows.rankScalesSpec.plain.varTypes Try.prog ++ Try.f10.resultTypes.toList).any (Try.prog.veiledRec ·))) = true := by kernel_rfl
theorem cf31 : (Rows.rankScalesRow.veiledFits Try.prog Try.f10.params.toList (Try.f10.params.toList ++ Rows.rankScalesSpec.plain.varTypes Try.prog ++ Try.f10.resultTypes.toList)) = true := by kernel_rfl
theorem band_mk {a b : Bool} (h : a = true) (k : b = true) : (a && b) = true := by rw [h, k]; rfl
theorem closed : joinedFacts Try.prog 10 Try.f10 Rows.rankScalesSpec Rows.rankScalesRow = true := by unfold joinedFacts; exact (band_mk (band_mk (band_mk (band_mk (band_mk (band_mk (band_mk (band_mk (band_mk (band_mk (band_mk (band_mk (band_mk (band_mk (band_mk (band_mk (band_mk (band_mk (band_mk (band_mk (band_mk (band_mk (band_mk (band_mk (band_mk (band_mk (band_mk (band_mk (band_mk (band_mk (band_mk cf0 cf1) cf2) cf3) cf4) cf5) cf6) cf7) cf8) cf9) cf10) cf11) cf12) cf13) cf14) cf15) cf16) cf17) cf18) cf19) cf20) cf21) cf22) cf23) cf24) cf25) cf26) cf27) (by kernel_rfl)) cf29) cf30) cf31)
theorem over : Rows.rankScalesRow.holds Try.pinned (OpenSpec.ofChange Rows.rankScalesSpec) :=
  OpenClaim.holds_of_wide 10 Try.f10 rfl rfl rfl rfl rfl rfl rfl ⟨rfl, rfl, rfl, rfl, rfl⟩ rfl rfl rfl rfl rfl (by kernel_rfl) Try.func10 closed
    (of_decide_eq_true (by kernel_rfl)) (by unfold Func.isWrapper; first | (rw [if_pos (by decide +kernel)]; kernel_rfl) | (rw [if_neg (by decide +kernel)]; exact ⟨rfl, rfl⟩))
    (fun os started H enc _ => lifted os started H enc)
theorem proved : Rows.RankScalesSaid := over
#print axioms proved
end Go.Proofs.Ytgkplhdcafbfbaa.rankScales
namespace Go.Proofs.Ytgkplhdcafbfbaa
theorem rankScales_holds : Rows.RankScalesSaid := rankScales.proved
end Go.Proofs.Ytgkplhdcafbfbaa
