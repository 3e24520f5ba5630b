/- ScaleResets: the part that this text bears of the proof that the statement answers true for every input. No condition. -/
import Derived.Test.YtgkplhdcafbfbaaProg
import Derived.Below
import Derived.Deep.Draws
import Derived.Deep.AppendLies
import Derived.Maps.AppendAt
import Derived.OwnWalk
import Derived.Laws.BytesArg
import Derived.Laws.MakeOwn
import Derived.Laws.OwnMore
import Derived.Deep.OwnRows
import Derived.Tactics
import Derived.Lib.ConvBytes
import Derived.Laws.Slices
import Derived.WalkKit
import Derived.KernelRfl
import Derived.RowKit3
import Derived.Deep.LoopGhost
import Derived.Deep.QuietTactic
import Derived.BigQuiet
import Derived.WideLaws
import Derived.Deep.DeepCutAuto
import Derived.Deep.CutBlock
import Derived.Deep.RegionHeld3
import Derived.Laws.Rows
import Derived.Lib.AppendStr
import Derived.ArgAppend
import Derived.Laws.IdiomCopy
import Derived.OrdersHeld
import Derived.Laws.BitsLemmas
import Derived.RowKit
import Derived.Deep.Slices
import Derived.ChangeArms
import Derived.Shelf.Abstract
import Derived.WalkSpells
import Derived.RangeFuncNested
import Derived.RangeFuncBound
import Derived.RangeFuncCalls
import Derived.RangeFuncLeaves
import Derived.RangeFuncBox
import Derived.OwnWalkIn
import Derived.TacticsInMore
import Derived.LoopNIn
import Derived.LoopIn
import Derived.Laws.Externs
import Derived.Shelf.Spec.BitsCarry
import Derived.RegionIn
import Derived.Sort.QuietTacIn
import Derived.Deep.RegionWith
import Derived.Laws.BitsAllLaws
import Derived.Outline
import Derived.Laws.Tables
import Derived.Deep.WholeRow
import Derived.Laws.CopyOwn
import Derived.Laws.ResultCell
import Derived.ProofKit
import Derived.JoinedOf
import Derived.OpenShut
import Derived.ShutString
import Derived.ChangeOld
import Derived.SizedLaws
import Derived.Test.YtgkplhdcafbfbaaQScaleResetsWWords
import Derived.Test.YtgkplhdcafbfbaaQScaleResetsWLast
import Derived.Test.YtgkplhdcafbfbaaQScaleResetsWTab
import Derived.Test.YtgkplhdcafbfbaaQScaleResetsWFour
import Derived.Test.YtgkplhdcafbfbaaQScaleResetsWQPut
import Derived.Test.YtgkplhdcafbfbaaQScaleResetsWApart
import Derived.Test.YtgkplhdcafbfbaaQScaleResetsWArr
import Derived.Test.YtgkplhdcafbfbaaQScaleResetsWZeros
import Derived.Test.YtgkplhdcafbfbaaQScaleResetsWFoot
import Derived.Test.YtgkplhdcafbfbaaQScaleResetsWKept
import Derived.Test.YtgkplhdcafbfbaaQScaleResetsWShare
import Derived.Test.YtgkplhdcafbfbaaQScaleResetsWN
import Derived.Test.YtgkplhdcafbfbaaQScaleResetsWFootNe
import Derived.Test.YtgkplhdcafbfbaaQScaleResetsWAt
import Derived.Test.YtgkplhdcafbfbaaQScaleResetsWEqStruct
import Derived.Test.YtgkplhdcafbfbaaQScaleResetsWRepsOne
import Derived.Test.YtgkplhdcafbfbaaQScaleResetsWInv
import Derived.Test.YtgkplhdcafbfbaaQScaleResetsWInvWords
import Derived.Test.YtgkplhdcafbfbaaQScaleResetsWGuard
import Derived.Test.YtgkplhdcafbfbaaQScaleResetsWNEv
import Derived.Test.YtgkplhdcafbfbaaQScaleResetsWMore
import Derived.Test.YtgkplhdcafbfbaaRows
import Derived.Test.YtgkplhdcafbfbaaQScaleResets0
import Derived.Test.YtgkplhdcafbfbaaQScaleResets1
import Derived.Test.YtgkplhdcafbfbaaQScaleResets2
import Derived.Test.YtgkplhdcafbfbaaQScaleResets3
set_option linter.unusedVariables false
set_option linter.unusedSimpArgs false
namespace Go.Proofs.Ytgkplhdcafbfbaa.P
open Go.RowKit Go.Shelf Go.Proofs.YtgkplhdcafbfbaaW.PrintWords Go.Proofs.YtgkplhdcafbfbaaW.PrintLast Go.Proofs.YtgkplhdcafbfbaaW.PrintMore
def from25 : Fh := ⟨1, 0, 0, 4617315517961601024, 0, [⟨3, 3⟩], [], [4607182418800017408, 0, 4616189618054758400], []⟩
def fres25 : Fh := ⟨0, 0, 0, 4617315517961601024, 0, [⟨2, 2⟩], [], [4607182418800017408, 4616189618054758400], []⟩
theorem aw25_2 : fhist_From.f 1 0 0 5 0 [⟨3, 3⟩] [] [1, -1, 4] [] = some (1, 0, 0, 4617315517961601024, 0, [⟨3, 3⟩], [], [4607182418800017408, 0, 4616189618054758400], [], 0) := by kernel_rfl
theorem aw25_3 : scaleFR from25 0 = (fres25, 0) := by kernel_rfl
theorem from25_wf : wfF from25 := by unfold wfF; decide
theorem aw25_6 : scale_Fit.f 40 1 0 0 5 0 [⟨3, 3⟩] [] [1, -1, 4] [] 1 = some (-2, 0) := by kernel_rfl
theorem from25_x (w : World) (v : Value) (hv : HI w v one25) : Calls Try.prog 36 #[v] w fun e w' => ∃ fA5 fc5 fA6 fc6 fA7 fc7 fA8 fc8, e = .returned (.tuple #[.agg #[.int .i64 1, .int .u64 0, .int .u64 0, .int .u64 4617315517961601024, .int .u64 0, .slice fA5 1 fc5, .slice fA6 0 fc6, .slice fA7 3 fc7, .slice fA8 0 fc8], .int .i64 0]) ∧ GI w' (.agg #[.int .i64 1, .int .u64 0, .int .u64 0, .int .u64 4617315517961601024, .int .u64 0, .slice fA5 1 fc5, .slice fA6 0 fc6, .slice fA7 3 fc7, .slice fA8 0 fc8]) from25 ∧ Below w.heap.size w w' := by
  obtain ⟨A5, c5, A6, c6, A7, c7, A8, c8, rfl, ⟨_, _, e5, h51, h52⟩, ⟨_, _, e6, h61, h62⟩, ⟨_, _, e7, h71, h72⟩, ⟨_, _, e8, h81, h82⟩⟩ := hv.open_
  cases e5; cases e6; cases e7; cases e8
  refine (fhist_From.calls 1 0 0 5 0 A5 c5 _ A6 c6 _ A7 c7 _ A8 c8 _ _ _ _ _ _ _ _ _ _ _ w h52 h51 h62 h61 h72 h71 h82 h81 aw25_2).mono ?_
  rintro e w1 ⟨v5, v6, v7, v8, rfl, h5, h6, h7, h8, hb⟩
  have hi : GI w1 (.agg #[.int .i64 1, .int .u64 0, .int .u64 0, .int .u64 4617315517961601024, .int .u64 0, v5, v6, v7, v8]) from25 := ⟨v5, v6, v7, v8, rfl, .of_R h5, .of_R h6, .of_R h7, .of_R h8⟩
  obtain ⟨a5, c5, a6, c6, a7, c7, a8, c8, e, -⟩ := hi.open_
  rw [e] at hi ⊢
  exact ⟨a5, c5, a6, c6, a7, c7, a8, c8, rfl, hi, hb⟩
theorem floats25_x (w : World) (v : Value) (hv : GI w v from25) : Calls Try.prog 21 #[v, .int .i64 0] w fun e w' => ∃ xA5 xc5 xA6 xc6 xA7 xc7 xA8 xc8, e = .returned (.tuple #[.agg #[.int .i64 0, .int .u64 0, .int .u64 0, .int .u64 4617315517961601024, .int .u64 0, .slice xA5 1 xc5, .slice xA6 0 xc6, .slice xA7 2 xc7, .slice xA8 0 xc8], .int .i64 0]) ∧ GI w' (.agg #[.int .i64 0, .int .u64 0, .int .u64 0, .int .u64 4617315517961601024, .int .u64 0, .slice xA5 1 xc5, .slice xA6 0 xc6, .slice xA7 2 xc7, .slice xA8 0 xc8]) fres25 ∧ Below w.heap.size w w' := by
  have hc := scaleF_c from25 from25_wf 0 (by decide) w v hv
  rw [aw25_3] at hc
  refine hc.mono ?_
  rintro e w1 ⟨v', rfl, hh, hb⟩
  have hi := hh.now
  obtain ⟨a5, c5, a6, c6, a7, c7, a8, c8, e, -⟩ := hi.open_
  subst e
  exact ⟨a5, c5, a6, c6, a7, c7, a8, c8, rfl, hi, hb⟩
theorem fit25_x (w : World) (v : Value) (hv : HI w v one25) : Calls Try.prog 27 #[v, .int .i64 1] w fun e w' => e = .returned (.tuple #[.int .i64 (-2), .int .i64 0]) ∧ Below w.heap.size w w' := by
  obtain ⟨A5, c5, A6, c6, A7, c7, A8, c8, rfl, ⟨_, _, e5, h51, h52⟩, ⟨_, _, e6, h61, h62⟩, ⟨_, _, e7, h71, h72⟩, ⟨_, _, e8, h81, h82⟩⟩ := hv.open_
  cases e5; cases e6; cases e7; cases e8
  exact scale_Fit.calls 40 1 0 0 5 0 A5 c5 _ A6 c6 _ A7 c7 _ A8 c8 _ 1 _ _ w h52 h51 h62 h61 h72 h71 h82 h81 aw25_6
set_option maxHeartbeats 16000000 in
set_option maxRecDepth 100000 in
theorem awake25_c (w : World) : Calls Try.prog 13 #[] w fun e w' => e = .returned (.bool true) ∧ Below w.heap.size w w' := by
  have hu := Try.underlying30
  have hus := Try.underlying82
  have huf := Try.underlying46
  have hup := Try.underlying87
  go_enter Try.func13, Try.ntmps13
  go_wp2_with fail
  refine (one25_x w).mono ?_
  rintro e w1 ⟨oA5, oc5, oA6, oc6, oA7, oc7, oA8, oc8, rfl, hh, hb⟩
  have B := Aside0.mk hb
  have O := Aside0.mk hh
  clear hb hh
  go_wp2_with fail
  refine (ints25_x _ _ O.out).mono ?_
  rintro e w2 ⟨hA5, hc5, hA6, hc6, hA7, hc7, hA8, hc8, rfl, hh, hb⟩
  replace B := Aside0.mk (below_then B.out B.out.size hb)
  replace O := Aside0.mk (O.out.below hb)
  have Hh := Aside0.mk hh
  clear hb hh
  go_wp2_with fail
  refine (one25_x _).mono ?_
  rintro e w3 ⟨pA5, pc5, pA6, pc6, pA7, pc7, pA8, pc8, rfl, hh, hb⟩
  have hb0 := hb
  have hb := below_then (below_alloc (Below.refl w2.heap.size w2) (.cells #[.int .i64 0, .int .u64 0, .int .u64 0, .int .u64 5, .int .u64 0, .slice hA5 1 hc5, .slice hA6 0 hc6, .slice hA7 2 hc7, .slice hA8 0 hc8] 30)) ((below_alloc (Below.refl w2.heap.size w2) (.cells #[.int .i64 0, .int .u64 0, .int .u64 0, .int .u64 5, .int .u64 0, .slice hA5 1 hc5, .slice hA6 0 hc6, .slice hA7 2 hc7, .slice hA8 0 hc8] 30))).size hb
  replace B := Aside0.mk (below_then B.out B.out.size hb)
  replace O := Aside0.mk (O.out.below hb)
  replace Hh := Aside0.mk (Hh.out.below hb)
  have T1 := Aside0.mk (show Blk w3 w2.heap.size #[.int .i64 0, .int .u64 0, .int .u64 0, .int .u64 5, .int .u64 0, .slice hA5 1 hc5, .slice hA6 0 hc6, .slice hA7 2 hc7, .slice hA8 0 hc8] 30 from (Blk.new w2 #[.int .i64 0, .int .u64 0, .int .u64 0, .int .u64 5, .int .u64 0, .slice hA5 1 hc5, .slice hA6 0 hc6, .slice hA7 2 hc7, .slice hA8 0 hc8] 30).below hb0)
  have ht1 := fun i => T1.out.cell i
  have P := Aside0.mk hh
  clear hb hb0 hh
  go_wp2_with fail
  refine (from25_x _ _ P.out).mono ?_
  rintro e w4 ⟨fA5, fc5, fA6, fc6, fA7, fc7, fA8, fc8, rfl, hh, hb⟩
  replace B := Aside0.mk (below_then B.out B.out.size hb)
  replace O := Aside0.mk (O.out.below hb)
  replace Hh := Aside0.mk (Hh.out.below hb)
  replace P := Aside0.mk (P.out.below hb)
  replace T1 := Aside0.mk (T1.out.below hb)
  replace ht1 := fun i => T1.out.cell i
  have Ff := Aside0.mk hh
  clear hb hh
  have ht3 := fun i => (Blk.new w4 #[.int .i64 1, .int .u64 0, .int .u64 0, .int .u64 4617315517961601024, .int .u64 0, .slice fA5 1 fc5, .slice fA6 0 fc6, .slice fA7 3 fc7, .slice fA8 0 fc8] 46).cell i
  go_wp2_with fail
  refine (floats25_x _ _ (Ff.out.below (below_alloc (Below.refl w4.heap.size w4) (.cells #[.int .i64 1, .int .u64 0, .int .u64 0, .int .u64 4617315517961601024, .int .u64 0, .slice fA5 1 fc5, .slice fA6 0 fc6, .slice fA7 3 fc7, .slice fA8 0 fc8] 46)))).mono ?_
  rintro e w5 ⟨xA5, xc5, xA6, xc6, xA7, xc7, xA8, xc8, rfl, hh, hb⟩
  have hb0 := hb
  have hb := below_then (below_alloc (Below.refl w4.heap.size w4) (.cells #[.int .i64 1, .int .u64 0, .int .u64 0, .int .u64 4617315517961601024, .int .u64 0, .slice fA5 1 fc5, .slice fA6 0 fc6, .slice fA7 3 fc7, .slice fA8 0 fc8] 46)) ((below_alloc (Below.refl w4.heap.size w4) (.cells #[.int .i64 1, .int .u64 0, .int .u64 0, .int .u64 4617315517961601024, .int .u64 0, .slice fA5 1 fc5, .slice fA6 0 fc6, .slice fA7 3 fc7, .slice fA8 0 fc8] 46))).size hb
  replace B := Aside0.mk (below_then B.out B.out.size hb)
  replace O := Aside0.mk (O.out.below hb)
  replace Hh := Aside0.mk (Hh.out.below hb)
  replace P := Aside0.mk (P.out.below hb)
  replace Ff := Aside0.mk (Ff.out.below hb)
  replace T1 := Aside0.mk (T1.out.below hb)
  replace ht1 := fun i => T1.out.cell i
  clear hb hb0
  clear hh ht3
  go_wp2_with fail
  refine (one25_x _).mono ?_
  rintro e w6 ⟨qA5, qc5, qA6, qc6, qA7, qc7, qA8, qc8, rfl, hh, hb⟩
  have hb0 := hb
  have hb := below_then (below_alloc (Below.refl w5.heap.size w5) (.cells #[.int .i64 0, .int .u64 0, .int .u64 0, .int .u64 4617315517961601024, .int .u64 0, .slice xA5 1 xc5, .slice xA6 0 xc6, .slice xA7 2 xc7, .slice xA8 0 xc8] 46)) ((below_alloc (Below.refl w5.heap.size w5) (.cells #[.int .i64 0, .int .u64 0, .int .u64 0, .int .u64 4617315517961601024, .int .u64 0, .slice xA5 1 xc5, .slice xA6 0 xc6, .slice xA7 2 xc7, .slice xA8 0 xc8] 46))).size hb
  replace B := Aside0.mk (below_then B.out B.out.size hb)
  replace O := Aside0.mk (O.out.below hb)
  replace Hh := Aside0.mk (Hh.out.below hb)
  replace P := Aside0.mk (P.out.below hb)
  replace Ff := Aside0.mk (Ff.out.below hb)
  replace T1 := Aside0.mk (T1.out.below hb)
  replace ht1 := fun i => T1.out.cell i
  have T5 := Aside0.mk (show Blk w6 w5.heap.size #[.int .i64 0, .int .u64 0, .int .u64 0, .int .u64 4617315517961601024, .int .u64 0, .slice xA5 1 xc5, .slice xA6 0 xc6, .slice xA7 2 xc7, .slice xA8 0 xc8] 46 from (Blk.new w5 #[.int .i64 0, .int .u64 0, .int .u64 0, .int .u64 4617315517961601024, .int .u64 0, .slice xA5 1 xc5, .slice xA6 0 xc6, .slice xA7 2 xc7, .slice xA8 0 xc8] 46).below hb0)
  have ht5 := fun i => T5.out.cell i
  have Q := Aside0.mk hh
  clear hb hb0 hh
  go_wp2_with fail
  refine (ints25_y _ _ Q.out).mono ?_
  rintro e w7 ⟨yA5, yc5, yA6, yc6, yA7, yc7, yA8, yc8, rfl, hb⟩
  replace B := Aside0.mk (below_then B.out B.out.size hb)
  replace O := Aside0.mk (O.out.below hb)
  replace Hh := Aside0.mk (Hh.out.below hb)
  replace P := Aside0.mk (P.out.below hb)
  replace Ff := Aside0.mk (Ff.out.below hb)
  replace Q := Aside0.mk (Q.out.below hb)
  replace T1 := Aside0.mk (T1.out.below hb)
  replace ht1 := fun i => T1.out.cell i
  replace T5 := Aside0.mk (T5.out.below hb)
  replace ht5 := fun i => T5.out.cell i
  clear hb
  go_wp2_with fail
  refine (one25_x _).mono ?_
  rintro e w8 ⟨rA5, rc5, rA6, rc6, rA7, rc7, rA8, rc8, rfl, hh, hb⟩
  have hb0 := hb
  have hb := below_then (below_alloc (Below.refl w7.heap.size w7) (.cells #[.int .i64 0, .int .u64 0, .int .u64 0, .int .u64 0, .int .u64 0, .slice yA5 0 yc5, .slice yA6 0 yc6, .slice yA7 0 yc7, .slice yA8 0 yc8] 30)) ((below_alloc (Below.refl w7.heap.size w7) (.cells #[.int .i64 0, .int .u64 0, .int .u64 0, .int .u64 0, .int .u64 0, .slice yA5 0 yc5, .slice yA6 0 yc6, .slice yA7 0 yc7, .slice yA8 0 yc8] 30))).size hb
  replace B := Aside0.mk (below_then B.out B.out.size hb)
  replace O := Aside0.mk (O.out.below hb)
  replace Hh := Aside0.mk (Hh.out.below hb)
  replace P := Aside0.mk (P.out.below hb)
  replace Ff := Aside0.mk (Ff.out.below hb)
  replace Q := Aside0.mk (Q.out.below hb)
  replace T1 := Aside0.mk (T1.out.below hb)
  replace ht1 := fun i => T1.out.cell i
  replace T5 := Aside0.mk (T5.out.below hb)
  replace ht5 := fun i => T5.out.cell i
  have R := Aside0.mk hh
  clear hb hb0 hh
  go_wp2_with fail
  refine (sample25_x _ rA5 rA6 rA7 rA8 rc5 rc6 rc7 rc8).mono ?_
  rintro e w9 ⟨rfl, hb⟩
  replace B := Aside0.mk (below_then B.out B.out.size hb)
  replace O := Aside0.mk (O.out.below hb)
  replace Hh := Aside0.mk (Hh.out.below hb)
  replace P := Aside0.mk (P.out.below hb)
  replace Ff := Aside0.mk (Ff.out.below hb)
  replace Q := Aside0.mk (Q.out.below hb)
  replace R := Aside0.mk (R.out.below hb)
  replace T1 := Aside0.mk (T1.out.below hb)
  replace ht1 := fun i => T1.out.cell i
  replace T5 := Aside0.mk (T5.out.below hb)
  replace ht5 := fun i => T5.out.cell i
  clear hb
  go_wp2_with fail
  refine (scaled25_x _ rA5 rA6 rA7 rA8 rc5 rc6 rc7 rc8 R.out).mono ?_
  rintro e w10 ⟨S2, sA9, sc9, rfl, q1, q2, q3, q4, hb⟩
  replace B := Aside0.mk (below_then B.out B.out.size hb)
  replace O := Aside0.mk (O.out.below hb)
  replace Hh := Aside0.mk (Hh.out.below hb)
  replace P := Aside0.mk (P.out.below hb)
  replace Ff := Aside0.mk (Ff.out.below hb)
  replace Q := Aside0.mk (Q.out.below hb)
  replace R := Aside0.mk (R.out.below hb)
  replace T1 := Aside0.mk (T1.out.below hb)
  replace ht1 := fun i => T1.out.cell i
  replace T5 := Aside0.mk (T5.out.below hb)
  replace ht5 := fun i => T5.out.cell i
  clear hb
  have Q1 := Aside0.mk q1
  have Q2 := Aside0.mk q2
  clear q1 q2
  have N1 := Aside0.mk (heap_alloc_new w10 (.cells #[.int .i64 0, .int .i64 0, .int .i64 0, .int .u64 0, .int .u64 0, .int .u64 0, .int .u64 0, .slice none 0 0, .slice none 0 0, .slice none 0 0, .slice none 0 0, .int .i64 0, .int .u64 0, .int .u64 0, .int .u64 0, .int .u64 0, .slice none 0 0, .slice none 0 0, .slice none 0 0, .slice none 0 0] 82))
  go_wp2_with (refine wpList_store_row rfl 82 (.tmp 9) (.tmp 37) rfl w10.heap.size S2 rfl rfl 82 _ N1.out (by rw [Q1.out]; kernel_rfl) (by rw [Q1.out]; rfl) Q2.out ?_; rw [World.setRow_alloc_new])
  refine (one25_x _).mono ?_
  rintro e w11 ⟨uA5, uc5, uA6, uc6, uA7, uc7, uA8, uc8, rfl, hh, hb⟩
  have hb0 := hb
  have hb := below_then (below_alloc (Below.refl w10.heap.size w10) (.cells S2 82)) ((below_alloc (Below.refl w10.heap.size w10) (.cells S2 82))).size hb
  replace B := Aside0.mk (below_then B.out B.out.size hb)
  replace O := Aside0.mk (O.out.below hb)
  replace Hh := Aside0.mk (Hh.out.below hb)
  replace P := Aside0.mk (P.out.below hb)
  replace Ff := Aside0.mk (Ff.out.below hb)
  replace Q := Aside0.mk (Q.out.below hb)
  replace R := Aside0.mk (R.out.below hb)
  replace T1 := Aside0.mk (T1.out.below hb)
  replace ht1 := fun i => T1.out.cell i
  replace T5 := Aside0.mk (T5.out.below hb)
  replace ht5 := fun i => T5.out.cell i
  have T9 := Aside0.mk (show Blk w11 w10.heap.size S2 82 from (Blk.new w10 S2 82).below hb0)
  have ht9 := fun i => T9.out.cell i
  have U := Aside0.mk hh
  clear hb hb0 hh
  go_wp2_with fail
  refine (fit25_x _ _ U.out).mono ?_
  rintro e w12 ⟨rfl, hb⟩
  replace B := Aside0.mk (below_then B.out B.out.size hb)
  replace O := Aside0.mk (O.out.below hb)
  replace Hh := Aside0.mk (Hh.out.below hb)
  replace P := Aside0.mk (P.out.below hb)
  replace Ff := Aside0.mk (Ff.out.below hb)
  replace Q := Aside0.mk (Q.out.below hb)
  replace R := Aside0.mk (R.out.below hb)
  replace U := Aside0.mk (U.out.below hb)
  replace T1 := Aside0.mk (T1.out.below hb)
  replace ht1 := fun i => T1.out.cell i
  replace T5 := Aside0.mk (T5.out.below hb)
  replace ht5 := fun i => T5.out.cell i
  replace T9 := Aside0.mk (T9.out.below hb)
  replace ht9 := fun i => T9.out.cell i
  clear hb
  obtain ⟨_, _, e5, _, hC5⟩ := (HI.at57 Hh.out).1
  cases e5
  obtain ⟨ad5, e1, hx0, hx1⟩ := at_T87 hC5 0 (by decide) (by decide)
  subst e1
  obtain ⟨_, _, e7, _, hC7⟩ := (HI.at57 Hh.out).2
  cases e7
  obtain ⟨ad7, e2, hx7⟩ := Kd.at_int hC7 1 (by decide) (by decide)
  subst e2
  have hx0' : w12.cell? ad5 = some (.int .i64 2) := hx0
  have hx7' : w12.cell? ⟨ad7.block, ad7.off + 1, none⟩ = some (.int .i64 3) := hx7
  have PA := Aside0.mk place25_a
  have PB := Aside0.mk place25_b
  go_wp2_with (first | (go_at_call 11; (with_reducible first | refine (PA.out _).mono ?_ | refine (PB.out _).mono ?_); rintro e w20 ⟨rfl, hb⟩; replace B := Aside0.mk (below_then B.out B.out.size hb); clear hb))
  go_ret
  exact ⟨rfl, B.out⟩
end Go.Proofs.Ytgkplhdcafbfbaa.P
namespace Go.Proofs.Ytgkplhdcafbfbaa.P
open Go.RowKit Go.Shelf Go.Proofs.YtgkplhdcafbfbaaW.PrintWords Go.Proofs.YtgkplhdcafbfbaaW.PrintLast Go.Proofs.YtgkplhdcafbfbaaW.PrintMore
theorem make_right {g : Hi} (hw : wfH g) (c1 : headE g = 0) {p n : List Pr} (rp : RowOK p) (rn : RowOK n) (bp : ∀ q ∈ p, -1048576 ≤ q.f0 ∧ q.f0 ≤ 1048576) (bn : ∀ q ∈ n, -1048576 ≤ q.f0 ∧ q.f0 ≤ 1048576) (lp : p.length ≤ 1024) (ln : n.length ≤ 1024) (hf : fits g.f2 g.f3 g.f4 p n = true) :
    ∃ c : Hi, makeR g p n = (c, 0) ∧ checkR c = 0 ∧ openR c = (p, n, 0) ∧ sameNums c g ∧ wfH c ∧ c.f7.length = p.length ∧ c.f8.length = n.length ∧ canonB true c.f5 = true ∧ canonB true c.f6 = true ∧ c = madeH g p n := by
  obtain ⟨dp, e1, e2, e3, e4, e5, e6⟩ := lay_ok rp bp lp
  obtain ⟨dn, g1, g2, g3, g4, g5, g6⟩ := lay_ok rn bn ln
  have hmade : madeH g p n = ⟨g.f0, g.f1, g.f2, g.f3, g.f4, spansOf (p.map (·.f0)), spansOf (n.map (·.f0)), dp, dn⟩ := by unfold madeH; rw [e1, g1]
  have hmw := madeH_wf hw rp.wf rn.wf
  have hm' := hmade
  rw [hmade] at hmw
  generalize hC : (⟨g.f0, g.f1, g.f2, g.f3, g.f4, spansOf (p.map (·.f0)), spansOf (n.map (·.f0)), dp, dn⟩ : Hi) = c at *
  have hck : checkR c = 0 := by
    subst hC
    refine checkR_right c1 (by simp only [e2]) (by simp only [g2]) ?_
    simp only [e2, g2]
    exact hf
  have hoc : openR c = (p, n, 0) := by
    rw [openR_right hck]
    subst hC
    simp only [e2, g2]
  refine ⟨c, ?_, hck, hoc, by subst hC; exact ⟨rfl, rfl, rfl, rfl, rfl⟩, hmw, by subst hC; exact e5, by subst hC; exact g5, by subst hC; exact e3, by subst hC; exact g3, hm'.symm⟩
  unfold makeR
  rw [e1, g1, hmade]
  simp [hck]
theorem sides_right {h : Hi} (hw : wfH h) (hc : checkR h = 0) : RowOK (openR h).1 ∧ RowOK (openR h).2.1 ∧ (∀ q ∈ (openR h).1, -1048576 ≤ q.f0 ∧ q.f0 ≤ 1048576) ∧ (∀ q ∈ (openR h).2.1, -1048576 ≤ q.f0 ∧ q.f0 ≤ 1048576) ∧ (openR h).1.length = h.f7.length ∧ (openR h).2.1.length = h.f8.length ∧ fits h.f2 h.f3 h.f4 (openR h).1 (openR h).2.1 = true ∧ headE h = 0 := by
  obtain ⟨z1, z2, z3, z4⟩ := checkR_zero hc
  obtain ⟨a, b⟩ := openR_row hw
  have ho := openR_right hc
  have b5 := side_bounds z2
  have b6 := side_bounds z3
  refine ⟨a, b, ?_, ?_, ?_, ?_, ?_, z1⟩
  · rw [ho]; exact b5.1
  · rw [ho]; exact b6.1
  · rw [ho]; exact b5.2.1
  · rw [ho]; exact b6.2.1
  · rw [ho]; exact z4
theorem widen_bound {s : Int} {l r : List Pr} (h : RowOK l) (hr : widenW s l = some r) (hb : ∀ q ∈ l, -1048576 ≤ q.f0 ∧ q.f0 ≤ 1048576) : ∀ q ∈ r, -1048576 ≤ q.f0 ∧ q.f0 ≤ 1048576 := by
  intro q hq
  obtain ⟨q', hq', e⟩ := (widenW_ok h hr).2.2.2 q hq
  rw [e]
  exact placeR_bound (by omega) (hb q' hq').1 (hb q' hq').2
theorem low_right {h : Hi} (hw : wfH h) (hc : checkR h = 0) (h7 : h.f7.length ≤ 1024) (h8 : h.f8.length ≤ 1024) {tt : Int} (ht0 : -4 ≤ tt) (ht1 : tt ≤ h.f0) {p n : List Pr} (hp : widenW (h.f0 - tt) (openR h).1 = some p) (hn : widenW (h.f0 - tt) (openR h).2.1 = some n) :
    ∃ c : Hi, scaleR h tt = (c, 0) ∧ checkR c = 0 ∧ openR c = (some0 p, some0 n, 0) ∧ sameNums c (lowH h tt) ∧ wfH c ∧ c.f7.length = (some0 p).length ∧ c.f8.length = (some0 n).length ∧ canonB true c.f5 = true ∧ canonB true c.f6 = true ∧ c = madeH (lowH h tt) (some0 p) (some0 n) := by
  obtain ⟨r1, r2, b1, b2, l1, l2, hf, hd⟩ := sides_right hw hc
  have hs := checkR_schema hc
  obtain ⟨w1, w2, w3, w4⟩ := widenW_ok r1 hp
  obtain ⟨v1, v2, v3, v4⟩ := widenW_ok r2 hn
  have lp : (some0 p).length ≤ p.length := List.length_filter_le _ _
  have ln : (some0 n).length ≤ n.length := List.length_filter_le _ _
  have hwl : wfH (lowH h tt) := by
    obtain ⟨_, w⟩ := hw
    exact ⟨by show i64 tt; unfold i64; omega, w⟩
  have hdl : headE (lowH h tt) = 0 := by
    unfold headE at hd ⊢
    rw [if_neg (by show ¬ (tt < -4 ∨ tt > 8); omega)]
    rw [if_neg (by omega)] at hd
    exact hd
  have hfl : fits (lowH h tt).f2 (lowH h tt).f3 (lowH h tt).f4 (some0 p) (some0 n) = true := by
    rw [fits_congr _ _ _ ((sumV_some0 p).trans w3) ((sumV_some0 n).trans v3)]; exact hf
  obtain ⟨c, m, rest⟩ := make_right hwl hdl (some0_ok w1) (some0_ok v1) (fun q hq => widen_bound r1 hp b1 q (List.mem_filter.1 hq).1) (fun q hq => widen_bound r2 hn b2 q (List.mem_filter.1 hq).1) (by omega) (by omega) hfl
  refine ⟨c, ?_, rest⟩
  unfold scaleR
  rw [if_neg (by simp [hc]), if_neg (by omega), hp, hn]
  exact m
theorem ints_ok {h : Hi} {tt : Int} (he : (scaleR h tt).2 = 0) : checkR h = 0 ∧ -4 ≤ tt ∧ tt ≤ h.f0 ∧ ∃ p n, widenW (h.f0 - tt) (openR h).1 = some p ∧ widenW (h.f0 - tt) (openR h).2.1 = some n := by
  unfold scaleR at he
  by_cases hc : checkR h = 0
  rotate_left
  · rw [if_pos hc] at he; exact absurd he hc
  rw [if_neg (by simp [hc])] at he
  by_cases ht : tt < -4 ∨ tt > h.f0
  · rw [if_pos ht] at he; cases he
  rw [if_neg ht] at he
  refine ⟨hc, by omega, by omega, ?_⟩
  cases hp : widenW (h.f0 - tt) (openR h).1 with
  | none => rw [hp] at he; cases he
  | some p =>
    cases hn : widenW (h.f0 - tt) (openR h).2.1 with
    | none => rw [hp, hn] at he; cases he
    | some n => exact ⟨p, n, rfl, rfl⟩
end Go.Proofs.Ytgkplhdcafbfbaa.P
namespace Go.Proofs.Ytgkplhdcafbfbaa.P
open Go.RowKit Go.Proofs.YtgkplhdcafbfbaaW.PrintWords Go.Proofs.YtgkplhdcafbfbaaW.PrintLast Go.Proofs.YtgkplhdcafbfbaaW.PrintMore
attribute [local go_sem] max2_int min2_int max_two min_two max_three min_three max_four min_four
mutual
def reset_less_int64.l0 : Nat → List (S62) → Int → List (S62) → Int → Int → Option (Int × Bool)
 | 0, _, _, _, _, _ => none
 | k + 1, x1, x6, x10, x11, x12 => if x12 < x11 then (if 0 ≤ x12 then (if x12 < (x10.length : Int) then (reset_less_int64.l1 k x1 x6 x10 x11 x12 ((rd_T62 x10 x12).f0) ((rd_T62 x10 x12).f1)) else (none)) else (none)) else (some (0, false))
def reset_less_int64.j2 : Nat → List (S62) → Int → List (S62) → Int → Int → Int → Int → Option (Int × Bool)
 | 0, _, _, _, _, _, _, _ => none
 | k + 1, x1, x6, x10, x11, x12, x103000, x103001 => if (x1.length : Int) > 0 then (if 0 < (x1.length : Int) then (reset_less_int64.j3 k x1 x6 x6 x10 x11 x12 (((rd_T62 x1 0).f0) == x103000) x103000 x103001) else (none)) else (reset_less_int64.j3 k x1 x6 x6 x10 x11 x12 false x103000 x103001)
def reset_less_int64.j3 : Nat → List (S62) → Int → Int → List (S62) → Int → Int → Bool → Int → Int → Option (Int × Bool)
 | 0, _, _, _, _, _, _, _, _, _ => none
 | k + 1, x1, x6, x9, x10, x11, x12, x42, x103000, x103001 => if x42 = true then (if 0 < (x1.length : Int) then (if ((rd_T62 x1 0).f1) < x103001 then (some (x103000, true)) else (reset_less_int64.l0 k x1 x6 x10 x11 (wrap64 (x12 + 1)))) else (none)) else (if x9 < x103001 then (some (x103000, true)) else (reset_less_int64.l0 k x1 x6 x10 x11 (wrap64 (x12 + 1))))
def reset_less_int64.l1 : Nat → List (S62) → Int → List (S62) → Int → Int → Int → Int → Option (Int × Bool)
 | 0, _, _, _, _, _, _, _ => none
 | k + 1, x1, x6, x10, x11, x12, x103000, x103001 => if (x1.length : Int) > 0 then (if 0 < (x1.length : Int) then (if ((rd_T62 x1 0).f0) < x103000 then (if 1 ≤ (x1.length : Int) then (reset_less_int64.l1 k (x1.drop 1) x6 x10 x11 x12 x103000 x103001) else (none)) else (reset_less_int64.j2 k x1 x6 x10 x11 x12 x103000 x103001)) else (none)) else (reset_less_int64.j2 k x1 x6 x10 x11 x12 x103000 x103001)
end
def reset_less_int64.f (k : Nat) (l0 : List (S62)) (l1 : List (S62)) : Option (Int × Bool) := reset_less_int64.l0 k l1 0 l0 (l0.length : Int) 0
set_option maxHeartbeats 8000000 in
set_option maxRecDepth 100000 in
theorem reset_less_int64.calls (k : Nat) (A0 : Option Addr) (c0 : Nat) (l0 : List (S62)) (P1_ : Nat → Prop) (A1 : Option Addr) (c1 : Nat) (l1 : List (S62)) (r1 : Int) (r2 : Bool) (w : World) (hr0 : Kd.C k62 w A0 l0.length l0) (hc0 : l0.length ≤ c0) (hs1 : Kd.V k62 62 w w.heap.size (fun k_ => P1_ k_) (.slice A1 l1.length c1) l1) (h : reset_less_int64.f k l0 l1 = some (r1, r2)) :
  Calls Try.prog 106 #[.slice A0 l0.length c0, .slice A1 l1.length c1] w fun e w' => e = .returned (.tuple #[.int .i64 r1, .bool r2]) ∧ Below w.heap.size w w' := by
 have hu62 := Try.underlying62
 have HR0 := Aside0.mk hr0
 have HC0 := Aside0.mk hc0
 clear hr0 hc0
 have HO1 := Aside0.mk (show Kd.V k62 62 w w.heap.size (fun k_ => (P1_ k_ ∨ w.heap.size ≤ k_)) (.slice A1 l1.length c1) l1 from Kd.V_mono hs1 (fun k_ hk => .inl hk))
 have HB := Aside0.mk (Below.refl w.heap.size w)
 have H : (reset_less_int64.l0 k l1 0 l0 (l0.length : Int) 0) = some (r1, r2) := h
 clear h
 have H' := Aside0.mk H
 clear H
 go_enter Try.func106, Try.ntmps106
 go_wp2
 repeat (go_quiet (fail); try go_wp2)
 go_loopg [1, 12] k (fun kq v1 v12 w' => ∃ (x1_1 : List (S62)) (x12_1 : Int), v12 = .int .i64 x12_1 ∧ Aside0 (reset_less_int64.l0 kq x1_1 0 l0 (l0.length : Int) x12_1 = some (r1, r2)) ∧ Aside0 (kq ≤ k) ∧ Aside0 (Kd.V k62 62 w' w.heap.size (fun k_ => (P1_ k_ ∨ w.heap.size ≤ k_)) v1 x1_1) ∧ Aside0 (Below w.heap.size w w'))
 case atStart => exact ⟨(l1), (0), (by first | rfl | (simp; done) | (simp [*]; done)), H', ⟨Nat.le_refl _⟩, ⟨by (with_reducible repeat (first | apply Kd.V_alloc | apply Kd.V_drewN | apply Kd.V_drew)); exact HO1.out⟩, ⟨by repeat (first | (with_reducible first | exact HB.out | apply below_alloc | apply pw_below_drewN | apply below_drew1) | exact HB.out)⟩⟩
 case round =>
  clear H'
  try clear c1
  try clear p2
  obtain ⟨x1_1, x12_1, rfl, HA, HK1, HO_1, HB⟩ := hrel
  cases gk with
  | zero => exact absurd HA.out (by simp [reset_less_int64.l0])
  | succ k1 =>
   have H := HA.out
   clear HA
   simp only [reset_less_int64.l0] at H
   by_cases c3 : x12_1 < (l0.length : Int)
   ·rw [if_pos c3] at H
    have c3b0 : decide (x12_1 < (l0.length : Int)) = true := decide_eq_true c3
    clear c3
    by_cases c4 : 0 ≤ x12_1
    ·rw [if_pos c4] at H
     have c4b0 : decide (0 ≤ x12_1) = true := decide_eq_true c4
     clear c4
     by_cases c5 : x12_1 < (l0.length : Int)
     ·rw [if_pos c5] at H
      have c5b0 : decide (x12_1 < (l0.length : Int)) = true := decide_eq_true c5
      clear c5
      have HC6 := Aside0.mk H
      clear H
      have p101 : 0 ≤ (x12_1 : Int) := of_decide_eq_true (by first | (with_reducible assumption) | assumption)
      have q101 : x12_1 < (l0.length : Int) := of_decide_eq_true (by first | (with_reducible assumption) | assumption)
      obtain ⟨ad101, e101, hx101_0, hx101_1⟩ := at_T62 HR0.out x12_1 p101 q101
      cases e101
      replace hx101_0 := (HB.out.cell (World.block_lt_of_cell? w _ hx101_0)).trans hx101_0
      replace hx101_1 := (HB.out.cell (World.block_lt_of_cell? w _ hx101_1)).trans hx101_1
      replace p101 := eq_true p101
      replace q101 := eq_true q101
      go_upto_block 2 with (first | ((with_reducible refine gate_dst (N := 8) rfl ?_); refine box_event ?hg (N := 8) ?hd (cs := #[.int .i64 0, .int .i64 0]) (t := 62) ?hr ?_; (case hd => rfl); (case hg => rfl); (case hr => first | (go_simp; done) | (go_simp; rfl)); intro gb102 hg w7 hbox hb; have n0_ := Aside0.mk (Kd.V_below (Kd.V_elderB (by (with_reducible repeat (first | apply Kd.V_alloc | apply Kd.V_drewN | apply Kd.V_drew)); exact HO_1.out) gb102 (Nat.le_of_eq hg.symm)) hb); have n1_ := Aside0.mk (below_step (by repeat (first | (with_reducible first | exact HB.out | apply below_alloc | apply pw_below_drewN | apply below_drew1) | exact HB.out)) hb); have n2_ := Aside0.mk (hbox); have n3_ := Aside0.mk ((by rw [hg]; exact (below_size (by repeat (first | (with_reducible first | exact HB.out | apply below_alloc | apply pw_below_drewN | apply below_drew1) | exact HB.out))) : w.heap.size ≤ gb102)); have n4_ := Aside0.mk ((by rw [hg]; exact (below_size (by repeat (first | (with_reducible first | exact HB.out | apply below_alloc | apply pw_below_drewN | apply below_drew1) | exact HB.out))) : w.heap.size ≤ gb102)); clear HO_1; clear HB; have HO_1 := n0_; have HB := n1_; have BK102 := n2_; have GW102 := n3_; have GE102 := n4_; clear n0_ n1_ n2_ n3_ n4_; clear hb hbox hg; have hcz8_0 : w7.cell? ⟨gb102, 0, none⟩ = some (.int .i64 0) := (blk_cell BK102.out 0).trans rfl; have hcz8_1 : w7.cell? ⟨gb102, 1, none⟩ = some (.int .i64 0) := (blk_cell BK102.out 1).trans rfl; have hfz8_0 := blk_frozen BK102.out 0; have hfz8_1 := blk_frozen BK102.out 1))
      repeat (go_quiet (first | ((with_reducible refine gate_dst (N := 8) rfl ?_); refine box_event ?hg (N := 8) ?hd (cs := #[.int .i64 0, .int .i64 0]) (t := 62) ?hr ?_; (case hd => rfl); (case hg => rfl); (case hr => first | (go_simp; done) | (go_simp; rfl)); intro gb102 hg w7 hbox hb; have n0_ := Aside0.mk (Kd.V_below (Kd.V_elderB (by (with_reducible repeat (first | apply Kd.V_alloc | apply Kd.V_drewN | apply Kd.V_drew)); exact HO_1.out) gb102 (Nat.le_of_eq hg.symm)) hb); have n1_ := Aside0.mk (below_step (by repeat (first | (with_reducible first | exact HB.out | apply below_alloc | apply pw_below_drewN | apply below_drew1) | exact HB.out)) hb); have n2_ := Aside0.mk (hbox); have n3_ := Aside0.mk ((by rw [hg]; exact (below_size (by repeat (first | (with_reducible first | exact HB.out | apply below_alloc | apply pw_below_drewN | apply below_drew1) | exact HB.out))) : w.heap.size ≤ gb102)); have n4_ := Aside0.mk ((by rw [hg]; exact (below_size (by repeat (first | (with_reducible first | exact HB.out | apply below_alloc | apply pw_below_drewN | apply below_drew1) | exact HB.out))) : w.heap.size ≤ gb102)); clear HO_1; clear HB; have HO_1 := n0_; have HB := n1_; have BK102 := n2_; have GW102 := n3_; have GE102 := n4_; clear n0_ n1_ n2_ n3_ n4_; clear hb hbox hg; have hcz8_0 : w7.cell? ⟨gb102, 0, none⟩ = some (.int .i64 0) := (blk_cell BK102.out 0).trans rfl; have hcz8_1 : w7.cell? ⟨gb102, 1, none⟩ = some (.int .i64 0) := (blk_cell BK102.out 1).trans rfl; have hfz8_0 := blk_frozen BK102.out 0; have hfz8_1 := blk_frozen BK102.out 1)); go_upto_block 2 with (first | ((with_reducible refine gate_dst (N := 8) rfl ?_); refine box_event ?hg (N := 8) ?hd (cs := #[.int .i64 0, .int .i64 0]) (t := 62) ?hr ?_; (case hd => rfl); (case hg => rfl); (case hr => first | (go_simp; done) | (go_simp; rfl)); intro gb102 hg w7 hbox hb; have n0_ := Aside0.mk (Kd.V_below (Kd.V_elderB (by (with_reducible repeat (first | apply Kd.V_alloc | apply Kd.V_drewN | apply Kd.V_drew)); exact HO_1.out) gb102 (Nat.le_of_eq hg.symm)) hb); have n1_ := Aside0.mk (below_step (by repeat (first | (with_reducible first | exact HB.out | apply below_alloc | apply pw_below_drewN | apply below_drew1) | exact HB.out)) hb); have n2_ := Aside0.mk (hbox); have n3_ := Aside0.mk ((by rw [hg]; exact (below_size (by repeat (first | (with_reducible first | exact HB.out | apply below_alloc | apply pw_below_drewN | apply below_drew1) | exact HB.out))) : w.heap.size ≤ gb102)); have n4_ := Aside0.mk ((by rw [hg]; exact (below_size (by repeat (first | (with_reducible first | exact HB.out | apply below_alloc | apply pw_below_drewN | apply below_drew1) | exact HB.out))) : w.heap.size ≤ gb102)); clear HO_1; clear HB; have HO_1 := n0_; have HB := n1_; have BK102 := n2_; have GW102 := n3_; have GE102 := n4_; clear n0_ n1_ n2_ n3_ n4_; clear hb hbox hg; have hcz8_0 : w7.cell? ⟨gb102, 0, none⟩ = some (.int .i64 0) := (blk_cell BK102.out 0).trans rfl; have hcz8_1 : w7.cell? ⟨gb102, 1, none⟩ = some (.int .i64 0) := (blk_cell BK102.out 1).trans rfl; have hfz8_0 := blk_frozen BK102.out 0; have hfz8_1 := blk_frozen BK102.out 1)))
      (try simp only [Act.put, List.setIfInBounds_toArray, List.set_cons_zero, List.set_cons_succ])
      go_cut [1] (fun v1 wc => ∃ (kq : Nat) (x1_5 : List (S62)), Aside0 (reset_less_int64.j2 kq x1_5 0 l0 (l0.length : Int) x12_1 ((rd_T62 l0 x12_1).f0) ((rd_T62 l0 x12_1).f1) = some (r1, r2)) ∧ Aside0 (kq ≤ k1) ∧ Aside0 (Kd.V k62 62 wc w.heap.size (fun k_ => (P1_ k_ ∨ w.heap.size ≤ k_) ∧ k_ ≠ gb102) v1 x1_5) ∧ Aside0 (wc.heap[gb102]? = some (.cells #[.int .i64 ((rd_T62 l0 x12_1).f0), .int .i64 ((rd_T62 l0 x12_1).f1)] 62 (0, 0))) ∧ Aside0 (Below w.heap.size w wc))
      case first =>
       have H := HC6.out
       clear HC6
       have H' := Aside0.mk H
       clear H
       go_wp2
       repeat (go_quiet (fail); try go_wp2)
       go_loopg [1] k1 (fun kq v1 w' => ∃ (x1_2 : List (S62)), Aside0 (reset_less_int64.l1 kq x1_2 0 l0 (l0.length : Int) x12_1 ((rd_T62 l0 x12_1).f0) ((rd_T62 l0 x12_1).f1) = some (r1, r2)) ∧ Aside0 (kq ≤ k1) ∧ Aside0 (Kd.V k62 62 w' w.heap.size (fun k_ => (P1_ k_ ∨ w.heap.size ≤ k_) ∧ k_ ≠ gb102) v1 x1_2) ∧ Aside0 (w'.heap[gb102]? = some (.cells #[.int .i64 ((rd_T62 l0 x12_1).f0), .int .i64 ((rd_T62 l0 x12_1).f1)] 62 (0, 0))) ∧ Aside0 (Below w.heap.size w w'))
       case atStart => exact ⟨(x1_1), H', ⟨Nat.le_refl _⟩, ⟨by (with_reducible repeat (first | apply Kd.V_alloc | apply Kd.V_drewN | apply Kd.V_drew)); exact Kd.V_mono (Kd.V_far (p := ⟨gb102, 1, none⟩) (Kd.V_far (p := ⟨gb102, 0, none⟩) (Kd.V_mono HO_1.out (fun k_ hk => (⟨hk, hk.2⟩ : _ ∧ k_ ≠ gb102))) (fun _ hk => hk.2) (.int .i64 ((rd_T62 l0 x12_1).f0))) (fun _ hk => hk.2) (.int .i64 ((rd_T62 l0 x12_1).f1))) (fun _ hk => ⟨hk.1.1, hk.1.2⟩)⟩, ⟨by (with_reducible repeat (first | refine blk_drewN ?_ _ | refine blk_drew ?_ | refine blk_alloc ?_ _)); refine blk_put (cs := #[.int .i64 ((rd_T62 l0 x12_1).f0), .int .i64 0]) ?_ 1 _ rfl; (with_reducible repeat (first | refine blk_drewN ?_ _ | refine blk_drew ?_ | refine blk_alloc ?_ _)); refine blk_put (cs := #[.int .i64 0, .int .i64 0]) ?_ 0 _ rfl; (with_reducible repeat (first | refine blk_drewN ?_ _ | refine blk_drew ?_ | refine blk_alloc ?_ _)); exact BK102.out⟩, ⟨by repeat (first | (with_reducible first | exact HB.out | apply below_alloc | apply pw_below_drewN | apply below_drew1 | refine below_set ?_ GE102.out) | exact HB.out)⟩⟩
       case round =>
        clear H'
        try clear c1
        try clear p1
        try clear q1
        try clear hx1
        try clear p2
        try clear c3
        try clear c3b0
        try clear c4
        try clear c4b0
        try clear c5
        try clear c5b0
        try clear hcz8_0
        try clear hcz8_1
        try clear hfz8_0
        try clear hfz8_1
        try clear hx101_0
        try clear hx101_1
        try clear p101
        try clear p2
        try clear q101
        obtain ⟨x1_2, HA, HK2, HO_1, BK102, HB⟩ := hrel
        cases gk with
        | zero => exact absurd HA.out (by simp [reset_less_int64.l1])
        | succ k2 =>
         have H := HA.out
         clear HA
         simp only [reset_less_int64.l1] at H
         by_cases c9 : (x1_2.length : Int) > 0
         ·rw [if_pos c9] at H
          have c9b0 : decide (0 < (x1_2.length : Int)) = true := decide_eq_true c9
          have c9b1 : decide (0 < x1_2.length) = true := decide_eq_true (by omega)
          clear c9
          (first | rw [c9b0] | (simp only [i64_w, i32_w]; rw [c9b0]) | skip)
          by_cases c10 : 0 < (x1_2.length : Int)
          ·rw [if_pos c10] at H
           have c10b0 : decide (0 < (x1_2.length : Int)) = true := decide_eq_true c10
           have c10b1 : decide (0 < x1_2.length) = true := decide_eq_true (by omega)
           clear c10
           by_cases c11 : ((rd_T62 x1_2 0).f0) < ((rd_T62 l0 x12_1).f0)
           ·rw [if_pos c11] at H
            have c11b0 : decide (((rd_T62 x1_2 0).f0) < ((rd_T62 l0 x12_1).f0)) = true := decide_eq_true c11
            clear c11
            by_cases c12 : 1 ≤ (x1_2.length : Int)
            ·rw [if_pos c12] at H
             have c12b0 := eq_true c12
             have c12b1 : decide (1 ≤ (x1_2.length : Int)) = true := decide_eq_true c12
             clear c12
             obtain ⟨y104, hy104⟩ : ∃ y_ : List (S62), y_ = (x1_2.drop 1) := ⟨_, rfl⟩
             replace H : (reset_less_int64.l1 k2 y104 0 l0 (l0.length : Int) x12_1 ((rd_T62 l0 x12_1).f0) ((rd_T62 l0 x12_1).f1)) = some (r1, r2) := by first | (rw [hy104]; with_reducible exact H) | (have H2_ := (Option.bind_some _ _).symm.trans H; rw [hy104]; with_reducible exact H2_) | (have H2_ := (Option.bind_some _ _).symm.trans H; with_reducible exact H2_) | with_reducible exact H | (rw [hy104]; exact H) | exact H
             have Ny104 := Aside0.mk hy104
             clear hy104
             have H' := Aside0.mk H
             clear H
             obtain ⟨Ao13, co13, eo13⟩ := Kd.V_slice HO_1.out
             subst eo13
             have p103 : 0 ≤ (0 : Int) := (by omega)
             have q103 : 0 < (x1_2.length : Int) := of_decide_eq_true (by first | (with_reducible assumption) | assumption)
             obtain ⟨ad103, e103, hx103_0, hx103_1⟩ := at_T62 (Kd.V_reads' HO_1.out).2.2 0 p103 q103
             cases e103
             have qi103 : (0 < x1_2.length) = True := eq_true (by omega)
             (try rw [show ((0 : Int)).toNat = 0 from rfl] at hx103_0)
             (try rw [show 0 * 2 = 0 from rfl] at hx103_0)
             (try rw [Addr.add_zero'] at hx103_0)
             (try rw [show ((0 : Int)).toNat = 0 from rfl] at hx103_1)
             (try rw [show 0 * 2 = 0 from rfl] at hx103_1)
             (try rw [Addr.add_zero'] at hx103_1)
             replace p103 := eq_true p103
             replace q103 := eq_true q103
             have hcz14_0 : wr.cell? ⟨gb102, 0, none⟩ = some (.int .i64 ((rd_T62 l0 x12_1).f0)) := (blk_cell BK102.out 0).trans rfl
             have hcz14_1 : wr.cell? ⟨gb102, 1, none⟩ = some (.int .i64 ((rd_T62 l0 x12_1).f1)) := (blk_cell BK102.out 1).trans rfl
             have hfz14_0 := blk_frozen BK102.out 0
             have hfz14_1 := blk_frozen BK102.out 1
             have q15 : (1 : Int) ≤ ((x1_2.length : Int) : Int) := of_decide_eq_true (by first | (with_reducible assumption) | assumption)
             obtain ⟨i015, hi015, _, hsz15, _⟩ := info_parts info62
             have hroom15 : x1_2.length ≤ co13 := (Kd.V_reads' HO_1.out).2.1
             have hC15 : Kd.F k62 _ _ (some ad103) x1_2.length x1_2 := (Kd.V_at (base := w.heap.size) HO_1.out).2.2
             have hcut15 := cut_from (P := Try.prog) 58 62 .i64 Try.underlying58 hi015 2 hsz15 (some ad103) x1_2.length co13 1 (by omega) q15
             have hr15 := Kd.F_cut (m := (1 : Int).toNat) (c := co13) hC15 (by omega) hroom15
             obtain ⟨A15, hA15⟩ : ∃ A1, A1 = (if co13 = (1 : Int).toNat then (some ad103) else ((some ad103) : Option Addr).map (·.add ((1 : Int).toNat * 2))) := ⟨_, rfl⟩
             obtain ⟨c15, hc15⟩ : ∃ c1, c1 = co13 - (1 : Int).toNat := ⟨_, rfl⟩
             have hy15 : y104.length = x1_2.length - (1 : Int).toNat := (by rw [Ny104.out, List.length_drop] <;> omega)
             rw [show (x1_2).drop (1 : Int).toNat = y104 from Ny104.out.symm] at hr15
             replace hr15 : Kd.F k62 _ _ A15 y104.length y104 := (by rw [hA15]; exact hr15)
             rw [← hy15, ← hA15, ← hc15] at hcut15
             have HO108 := Aside0.mk (show Kd.V k62 62 _ w.heap.size _ (.slice A15 y104.length c15) y104 from Kd.V_mk (by rw [hy15, hc15]; exact Nat.sub_le_sub_right hroom15 _) hr15)
             have HC108 := Aside0.mk (show y104.length ≤ c15 from by rw [hy15, hc15]; exact Nat.sub_le_sub_right hroom15 _)
             clear hr15 hC15 hroom15 hi015 hsz15 hc15
             have KY15 := Aside0.mk hy15
             have KA15 := Aside0.mk hA15
             clear hy15 hA15
             replace q15 := eq_true q15
             go_wp2
             repeat (go_quiet (fail); try go_wp2)
             go_roundg k2
             case measure => have := HK1.out; have := HK2.out; omega
             case rel => exact ⟨(y104), H', ⟨by have := HK1.out; have := HK2.out; omega⟩, ⟨by (with_reducible repeat (first | apply Kd.V_alloc | apply Kd.V_drewN | apply Kd.V_drew)); exact HO108.out⟩, ⟨by (with_reducible repeat (first | refine blk_drewN ?_ _ | refine blk_drew ?_ | refine blk_alloc ?_ _)); exact BK102.out⟩, ⟨by repeat (first | (with_reducible first | exact HB.out | apply below_alloc | apply pw_below_drewN | apply below_drew1 | refine below_set ?_ GE102.out) | exact HB.out)⟩⟩
            ·rw [if_neg c12] at H
             exact absurd H (by simp)
           ·rw [if_neg c11] at H
            have c11b0 : decide (((rd_T62 x1_2 0).f0) < ((rd_T62 l0 x12_1).f0)) = false := decide_eq_false c11
            clear c11
            have H' := Aside0.mk H
            clear H
            obtain ⟨Ao16, co16, eo16⟩ := Kd.V_slice HO_1.out
            subst eo16
            have p103 : 0 ≤ (0 : Int) := (by omega)
            have q103 : 0 < (x1_2.length : Int) := of_decide_eq_true (by first | (with_reducible assumption) | assumption)
            obtain ⟨ad103, e103, hx103_0, hx103_1⟩ := at_T62 (Kd.V_reads' HO_1.out).2.2 0 p103 q103
            cases e103
            have qi103 : (0 < x1_2.length) = True := eq_true (by omega)
            (try rw [show ((0 : Int)).toNat = 0 from rfl] at hx103_0)
            (try rw [show 0 * 2 = 0 from rfl] at hx103_0)
            (try rw [Addr.add_zero'] at hx103_0)
            (try rw [show ((0 : Int)).toNat = 0 from rfl] at hx103_1)
            (try rw [show 0 * 2 = 0 from rfl] at hx103_1)
            (try rw [Addr.add_zero'] at hx103_1)
            replace p103 := eq_true p103
            replace q103 := eq_true q103
            have hcz17_0 : wr.cell? ⟨gb102, 0, none⟩ = some (.int .i64 ((rd_T62 l0 x12_1).f0)) := (blk_cell BK102.out 0).trans rfl
            have hcz17_1 : wr.cell? ⟨gb102, 1, none⟩ = some (.int .i64 ((rd_T62 l0 x12_1).f1)) := (blk_cell BK102.out 1).trans rfl
            have hfz17_0 := blk_frozen BK102.out 0
            have hfz17_1 := blk_frozen BK102.out 1
            go_wp2
            repeat (go_quiet (fail); try go_wp2)
            go_meet
            case rel => exact ⟨_, (x1_2), H', ⟨by have := HK1.out; have := HK2.out; first | omega | exact Nat.le_refl _⟩, ⟨by (with_reducible repeat (first | apply Kd.V_alloc | apply Kd.V_drewN | apply Kd.V_drew)); exact HO_1.out⟩, ⟨by (with_reducible repeat (first | refine blk_drewN ?_ _ | refine blk_drew ?_ | refine blk_alloc ?_ _)); exact BK102.out⟩, ⟨by repeat (first | (with_reducible first | exact HB.out | apply below_alloc | apply pw_below_drewN | apply below_drew1 | refine below_set ?_ GE102.out) | exact HB.out)⟩⟩
          ·rw [if_neg c10] at H
           exact absurd H (by simp)
         ·rw [if_neg c9] at H
          have c9b0 : decide (0 < (x1_2.length : Int)) = false := decide_eq_false c9
          have c9b1 : decide (0 < x1_2.length) = false := decide_eq_false (by omega)
          clear c9
          (first | rw [c9b0] | (simp only [i64_w, i32_w]; rw [c9b0]) | skip)
          have H' := Aside0.mk H
          clear H
          obtain ⟨Ao18, co18, eo18⟩ := Kd.V_slice HO_1.out
          subst eo18
          go_wp2
          repeat (go_quiet (fail); try go_wp2)
          go_meet
          case rel => exact ⟨_, (x1_2), H', ⟨by have := HK1.out; have := HK2.out; first | omega | exact Nat.le_refl _⟩, ⟨by (with_reducible repeat (first | apply Kd.V_alloc | apply Kd.V_drewN | apply Kd.V_drew)); exact HO_1.out⟩, ⟨by (with_reducible repeat (first | refine blk_drewN ?_ _ | refine blk_drew ?_ | refine blk_alloc ?_ _)); exact BK102.out⟩, ⟨by repeat (first | (with_reducible first | exact HB.out | apply below_alloc | apply pw_below_drewN | apply below_drew1 | refine below_set ?_ GE102.out) | exact HB.out)⟩⟩
      case rest =>
       clear HC6
       try clear c1
       try clear p1
       try clear q1
       try clear hx1
       try clear qi1
       try clear p2
       try clear c3
       try clear c3b0
       try clear c4
       try clear c4b0
       try clear c5
       try clear c5b0
       try clear c9
       try clear c9b0
       try clear c9b1
       try clear c10
       try clear c10b0
       try clear c10b1
       try clear p10
       try clear q10
       try clear hx10
       try clear qi10
       try clear c11
       try clear c11b0
       try clear c12
       try clear c12b0
       try clear c12b1
       try clear c15
       try clear q15
       try clear hcz14_0
       try clear hcz14_1
       try clear hcz17_0
       try clear hcz17_1
       try clear hcz8_0
       try clear hcz8_1
       try clear hfz14_0
       try clear hfz14_1
       try clear hfz17_0
       try clear hfz17_1
       try clear hfz8_0
       try clear hfz8_1
       try clear hx101_0
       try clear hx101_1
       try clear hx103_0
       try clear hx103_1
       try clear p1
       try clear p101
       try clear p103
       try clear p2
       try clear q1
       try clear q101
       try clear q103
       try clear q15
       obtain ⟨kq, x1_5, HA, HJ5, HO_1, BK102, HB⟩ := hcut
       cases kq with
       | zero => exact absurd HA.out (by simp [reset_less_int64.j2])
       | succ kj5 =>
        have H := HA.out
        clear HA
        simp only [reset_less_int64.j2] at H
        have HC19 := Aside0.mk H
        clear H
        go_upto_region 8 with (fail)
        repeat (go_quiet (fail); go_upto_region 8 with (fail))
        go_cut [42] (fun v42 wc => ∃ (kq : Nat) (x42_18 : Bool), v42 = .bool x42_18 ∧ Aside0 (reset_less_int64.j3 kq x1_5 0 0 l0 (l0.length : Int) x12_1 x42_18 ((rd_T62 l0 x12_1).f0) ((rd_T62 l0 x12_1).f1) = some (r1, r2)) ∧ Aside0 (kq ≤ kj5) ∧ Aside0 (Kd.V k62 62 wc w.heap.size (fun k_ => (P1_ k_ ∨ w.heap.size ≤ k_) ∧ k_ ≠ gb102) u1 x1_5) ∧ Aside0 (wc.heap[gb102]? = some (.cells #[.int .i64 ((rd_T62 l0 x12_1).f0), .int .i64 ((rd_T62 l0 x12_1).f1)] 62 (0, 0))) ∧ Aside0 (Below w.heap.size w wc))
        case first =>
         have H := HC19.out
         clear HC19
         by_cases c20 : (x1_5.length : Int) > 0
         ·rw [if_pos c20] at H
          have c20b0 : decide (0 < (x1_5.length : Int)) = true := decide_eq_true c20
          have c20b1 : decide (0 < x1_5.length) = true := decide_eq_true (by omega)
          clear c20
          (first | rw [c20b0] | (simp only [i64_w, i32_w]; rw [c20b0]) | skip)
          by_cases c21 : 0 < (x1_5.length : Int)
          ·rw [if_pos c21] at H
           have c21b0 : decide (0 < (x1_5.length : Int)) = true := decide_eq_true c21
           have c21b1 : decide (0 < x1_5.length) = true := decide_eq_true (by omega)
           clear c21
           have H' := Aside0.mk H
           clear H
           obtain ⟨Ao22, co22, eo22⟩ := Kd.V_slice HO_1.out
           subst eo22
           have p109 : 0 ≤ (0 : Int) := (by omega)
           have q109 : 0 < (x1_5.length : Int) := of_decide_eq_true (by first | (with_reducible assumption) | assumption)
           obtain ⟨ad109, e109, hx109_0, hx109_1⟩ := at_T62 (Kd.V_reads' HO_1.out).2.2 0 p109 q109
           cases e109
           have qi109 : (0 < x1_5.length) = True := eq_true (by omega)
           (try rw [show ((0 : Int)).toNat = 0 from rfl] at hx109_0)
           (try rw [show 0 * 2 = 0 from rfl] at hx109_0)
           (try rw [Addr.add_zero'] at hx109_0)
           (try rw [show ((0 : Int)).toNat = 0 from rfl] at hx109_1)
           (try rw [show 0 * 2 = 0 from rfl] at hx109_1)
           (try rw [Addr.add_zero'] at hx109_1)
           replace p109 := eq_true p109
           replace q109 := eq_true q109
           have hcz23_0 : wc.cell? ⟨gb102, 0, none⟩ = some (.int .i64 ((rd_T62 l0 x12_1).f0)) := (blk_cell BK102.out 0).trans rfl
           have hcz23_1 : wc.cell? ⟨gb102, 1, none⟩ = some (.int .i64 ((rd_T62 l0 x12_1).f1)) := (blk_cell BK102.out 1).trans rfl
           have hfz23_0 := blk_frozen BK102.out 0
           have hfz23_1 := blk_frozen BK102.out 1
           go_wp2
           repeat (go_quiet (fail); try go_wp2)
           go_meet
           case rel => exact ⟨_, ((((rd_T62 x1_5 0).f0) == ((rd_T62 l0 x12_1).f0))), (by first | rfl | (simp; done) | (simp [*]; done)), H', ⟨by have := HK1.out; have := HJ5.out; first | omega | exact Nat.le_refl _⟩, ⟨by (with_reducible repeat (first | apply Kd.V_alloc | apply Kd.V_drewN | apply Kd.V_drew)); exact HO_1.out⟩, ⟨by (with_reducible repeat (first | refine blk_drewN ?_ _ | refine blk_drew ?_ | refine blk_alloc ?_ _)); exact BK102.out⟩, ⟨by repeat (first | (with_reducible first | exact HB.out | apply below_alloc | apply pw_below_drewN | apply below_drew1 | refine below_set ?_ GE102.out) | exact HB.out)⟩⟩
          ·rw [if_neg c21] at H
           exact absurd H (by simp)
         ·rw [if_neg c20] at H
          have c20b0 : decide (0 < (x1_5.length : Int)) = false := decide_eq_false c20
          have c20b1 : decide (0 < x1_5.length) = false := decide_eq_false (by omega)
          clear c20
          (first | rw [c20b0] | (simp only [i64_w, i32_w]; rw [c20b0]) | skip)
          have H' := Aside0.mk H
          clear H
          obtain ⟨Ao24, co24, eo24⟩ := Kd.V_slice HO_1.out
          subst eo24
          go_wp2
          repeat (go_quiet (fail); try go_wp2)
          go_meet
          case rel => exact ⟨_, (false), (by first | rfl | (simp; done) | (simp [*]; done)), H', ⟨by have := HK1.out; have := HJ5.out; first | omega | exact Nat.le_refl _⟩, ⟨by (with_reducible repeat (first | apply Kd.V_alloc | apply Kd.V_drewN | apply Kd.V_drew)); exact HO_1.out⟩, ⟨by (with_reducible repeat (first | refine blk_drewN ?_ _ | refine blk_drew ?_ | refine blk_alloc ?_ _)); exact BK102.out⟩, ⟨by repeat (first | (with_reducible first | exact HB.out | apply below_alloc | apply pw_below_drewN | apply below_drew1 | refine below_set ?_ GE102.out) | exact HB.out)⟩⟩
        case rest =>
         clear HC19
         try clear c1
         try clear p1
         try clear q1
         try clear hx1
         try clear qi1
         try clear c2
         try clear p2
         try clear c3
         try clear c3b0
         try clear c4
         try clear c4b0
         try clear c5
         try clear c5b0
         try clear c9
         try clear c9b0
         try clear c9b1
         try clear c10
         try clear c10b0
         try clear c10b1
         try clear p10
         try clear q10
         try clear hx10
         try clear qi10
         try clear c11
         try clear c11b0
         try clear c12
         try clear c12b0
         try clear c12b1
         try clear c15
         try clear q15
         try clear c20
         try clear c20b0
         try clear c20b1
         try clear c21
         try clear c21b0
         try clear c21b1
         try clear hcz14_0
         try clear hcz14_1
         try clear hcz17_0
         try clear hcz17_1
         try clear hcz23_0
         try clear hcz23_1
         try clear hcz8_0
         try clear hcz8_1
         try clear hfz14_0
         try clear hfz14_1
         try clear hfz17_0
         try clear hfz17_1
         try clear hfz23_0
         try clear hfz23_1
         try clear hfz8_0
         try clear hfz8_1
         try clear hx101_0
         try clear hx101_1
         try clear hx103_0
         try clear hx103_1
         try clear hx109_0
         try clear hx109_1
         try clear p1
         try clear p10
         try clear p101
         try clear p103
         try clear p109
         try clear p2
         try clear q1
         try clear q10
         try clear q101
         try clear q103
         try clear q109
         try clear q15
         obtain ⟨kq, x42_18, rfl, HA, HJ18, HO_1, BK102, HB⟩ := hcut
         cases kq with
         | zero => exact absurd HA.out (by simp [reset_less_int64.j3])
         | succ kj18 =>
          have H := HA.out
          clear HA
          simp only [reset_less_int64.j3] at H
          by_cases c25 : x42_18 = true
          ·subst c25
           have H1 : (if 0 < (x1_5.length : Int) then (if ((rd_T62 x1_5 0).f1) < ((rd_T62 l0 x12_1).f1) then (some (((rd_T62 l0 x12_1).f0), true)) else (reset_less_int64.l0 kj18 x1_5 0 l0 (l0.length : Int) (wrap64 (x12_1 + 1)))) else (none)) = some (r1, r2) := by rw [if_pos rfl] at H; exact H
           clear H
           have H := H1
           clear H1
           by_cases c26 : 0 < (x1_5.length : Int)
           ·rw [if_pos c26] at H
            have c26b0 : decide (0 < (x1_5.length : Int)) = true := decide_eq_true c26
            have c26b1 : decide (0 < x1_5.length) = true := decide_eq_true (by omega)
            clear c26
            by_cases c27 : ((rd_T62 x1_5 0).f1) < ((rd_T62 l0 x12_1).f1)
            ·rw [if_pos c27] at H
             have c27b0 : decide (((rd_T62 x1_5 0).f1) < ((rd_T62 l0 x12_1).f1)) = true := decide_eq_true c27
             clear c27
             simp only [Option.some.injEq, Prod.mk.injEq] at H
             obtain ⟨rfl, rfl⟩ := H
             obtain ⟨Ao28, co28, eo28⟩ := Kd.V_slice HO_1.out
             subst eo28
             have p110 : 0 ≤ (0 : Int) := (by omega)
             have q110 : 0 < (x1_5.length : Int) := of_decide_eq_true (by first | (with_reducible assumption) | assumption)
             obtain ⟨ad110, e110, hx110_0, hx110_1⟩ := at_T62 (Kd.V_reads' HO_1.out).2.2 0 p110 q110
             cases e110
             have qi110 : (0 < x1_5.length) = True := eq_true (by omega)
             (try rw [show ((0 : Int)).toNat = 0 from rfl] at hx110_0)
             (try rw [show 0 * 2 = 0 from rfl] at hx110_0)
             (try rw [Addr.add_zero'] at hx110_0)
             (try rw [show ((0 : Int)).toNat = 0 from rfl] at hx110_1)
             (try rw [show 0 * 2 = 0 from rfl] at hx110_1)
             (try rw [Addr.add_zero'] at hx110_1)
             replace p110 := eq_true p110
             replace q110 := eq_true q110
             have hcz29_0 : wc.cell? ⟨gb102, 0, none⟩ = some (.int .i64 ((rd_T62 l0 x12_1).f0)) := (blk_cell BK102.out 0).trans rfl
             have hcz29_1 : wc.cell? ⟨gb102, 1, none⟩ = some (.int .i64 ((rd_T62 l0 x12_1).f1)) := (blk_cell BK102.out 1).trans rfl
             have hfz29_0 := blk_frozen BK102.out 0
             have hfz29_1 := blk_frozen BK102.out 1
             go_wp2
             repeat (go_quiet (fail); try go_wp2)
             go_ret2
             exact ⟨by first | rfl | (simp [errW_none, errW_some] <;> rfl) | (simp [*, errW_none, errW_some] <;> rfl), by repeat (first | (with_reducible first | exact HB.out | apply below_alloc | apply pw_below_drewN | apply below_drew1 | refine below_set ?_ GE102.out) | exact HB.out)⟩
            ·rw [if_neg c27] at H
             have c27b0 : decide (((rd_T62 x1_5 0).f1) < ((rd_T62 l0 x12_1).f1)) = false := decide_eq_false c27
             clear c27
             have H' := Aside0.mk H
             clear H
             obtain ⟨Ao30, co30, eo30⟩ := Kd.V_slice HO_1.out
             subst eo30
             have p110 : 0 ≤ (0 : Int) := (by omega)
             have q110 : 0 < (x1_5.length : Int) := of_decide_eq_true (by first | (with_reducible assumption) | assumption)
             obtain ⟨ad110, e110, hx110_0, hx110_1⟩ := at_T62 (Kd.V_reads' HO_1.out).2.2 0 p110 q110
             cases e110
             have qi110 : (0 < x1_5.length) = True := eq_true (by omega)
             (try rw [show ((0 : Int)).toNat = 0 from rfl] at hx110_0)
             (try rw [show 0 * 2 = 0 from rfl] at hx110_0)
             (try rw [Addr.add_zero'] at hx110_0)
             (try rw [show ((0 : Int)).toNat = 0 from rfl] at hx110_1)
             (try rw [show 0 * 2 = 0 from rfl] at hx110_1)
             (try rw [Addr.add_zero'] at hx110_1)
             replace p110 := eq_true p110
             replace q110 := eq_true q110
             have hcz31_0 : wc.cell? ⟨gb102, 0, none⟩ = some (.int .i64 ((rd_T62 l0 x12_1).f0)) := (blk_cell BK102.out 0).trans rfl
             have hcz31_1 : wc.cell? ⟨gb102, 1, none⟩ = some (.int .i64 ((rd_T62 l0 x12_1).f1)) := (blk_cell BK102.out 1).trans rfl
             have hfz31_0 := blk_frozen BK102.out 0
             have hfz31_1 := blk_frozen BK102.out 1
             go_wp2
             repeat (go_quiet (fail); try go_wp2)
             go_roundg kj18
             case measure => have := HK1.out; have := HJ5.out; have := HJ18.out; omega
             case rel => exact ⟨(x1_5), (wrap64 (x12_1 + 1)), (by first | rfl | (simp; done) | (simp [*]; done)), H', ⟨by have := HK1.out; have := HJ5.out; have := HJ18.out; omega⟩, ⟨by (with_reducible repeat (first | apply Kd.V_alloc | apply Kd.V_drewN | apply Kd.V_drew)); exact Kd.V_mono HO_1.out (fun _ hk => hk.1)⟩, ⟨by repeat (first | (with_reducible first | exact HB.out | apply below_alloc | apply pw_below_drewN | apply below_drew1 | refine below_set ?_ GE102.out) | exact HB.out)⟩⟩
           ·rw [if_neg c26] at H
            exact absurd H (by simp)
          ·replace c25 := Bool.eq_false_iff.mpr c25
           subst c25
           have H1 : (if 0 < ((rd_T62 l0 x12_1).f1) then (some (((rd_T62 l0 x12_1).f0), true)) else (reset_less_int64.l0 kj18 x1_5 0 l0 (l0.length : Int) (wrap64 (x12_1 + 1)))) = some (r1, r2) := by rw [if_neg (show ¬ (false = true) by decide)] at H; exact H
           clear H
           have H := H1
           clear H1
           by_cases c32 : 0 < ((rd_T62 l0 x12_1).f1)
           ·rw [if_pos c32] at H
            have c32b0 : decide (0 < ((rd_T62 l0 x12_1).f1)) = true := decide_eq_true c32
            clear c32
            simp only [Option.some.injEq, Prod.mk.injEq] at H
            obtain ⟨rfl, rfl⟩ := H
            have hcz33_0 : wc.cell? ⟨gb102, 0, none⟩ = some (.int .i64 ((rd_T62 l0 x12_1).f0)) := (blk_cell BK102.out 0).trans rfl
            have hcz33_1 : wc.cell? ⟨gb102, 1, none⟩ = some (.int .i64 ((rd_T62 l0 x12_1).f1)) := (blk_cell BK102.out 1).trans rfl
            have hfz33_0 := blk_frozen BK102.out 0
            have hfz33_1 := blk_frozen BK102.out 1
            go_wp2
            repeat (go_quiet (fail); try go_wp2)
            go_ret2
            exact ⟨by first | rfl | (simp [errW_none, errW_some] <;> rfl) | (simp [*, errW_none, errW_some] <;> rfl), by repeat (first | (with_reducible first | exact HB.out | apply below_alloc | apply pw_below_drewN | apply below_drew1 | refine below_set ?_ GE102.out) | exact HB.out)⟩
           ·rw [if_neg c32] at H
            have c32b0 : decide (0 < ((rd_T62 l0 x12_1).f1)) = false := decide_eq_false c32
            clear c32
            have H' := Aside0.mk H
            clear H
            have hcz34_0 : wc.cell? ⟨gb102, 0, none⟩ = some (.int .i64 ((rd_T62 l0 x12_1).f0)) := (blk_cell BK102.out 0).trans rfl
            have hcz34_1 : wc.cell? ⟨gb102, 1, none⟩ = some (.int .i64 ((rd_T62 l0 x12_1).f1)) := (blk_cell BK102.out 1).trans rfl
            have hfz34_0 := blk_frozen BK102.out 0
            have hfz34_1 := blk_frozen BK102.out 1
            go_wp2
            repeat (go_quiet (fail); try go_wp2)
            go_roundg kj18
            case measure => have := HK1.out; have := HJ5.out; have := HJ18.out; omega
            case rel => exact ⟨(x1_5), (wrap64 (x12_1 + 1)), (by first | rfl | (simp; done) | (simp [*]; done)), H', ⟨by have := HK1.out; have := HJ5.out; have := HJ18.out; omega⟩, ⟨by (with_reducible repeat (first | apply Kd.V_alloc | apply Kd.V_drewN | apply Kd.V_drew)); exact Kd.V_mono HO_1.out (fun _ hk => hk.1)⟩, ⟨by repeat (first | (with_reducible first | exact HB.out | apply below_alloc | apply pw_below_drewN | apply below_drew1 | refine below_set ?_ GE102.out) | exact HB.out)⟩⟩
     ·rw [if_neg c5] at H
      exact absurd H (by simp)
    ·rw [if_neg c4] at H
     exact absurd H (by simp)
   ·rw [if_neg c3] at H
    have c3b0 : decide (x12_1 < (l0.length : Int)) = false := decide_eq_false c3
    clear c3
    simp only [Option.some.injEq, Prod.mk.injEq] at H
    obtain ⟨rfl, rfl⟩ := H
    go_wp2
    repeat (go_quiet (fail); try go_wp2)
    go_ret2
    exact ⟨by first | rfl | (simp [errW_none, errW_some] <;> rfl) | (simp [*, errW_none, errW_some] <;> rfl), by repeat (first | (with_reducible first | exact HB.out | apply below_alloc | apply pw_below_drewN | apply below_drew1) | exact HB.out)⟩
def reset_heads.f (a0_0 : Int) (a0_1 : Int) (a0_2 : Int) (a0_3 : Int) (a1_0 : Int) (a1_1 : Int) (a1_2 : Int) (a1_3 : Int) : Option (Int) := if a0_0 = a1_0 then (if a0_1 = a1_1 then (if a1_2 < a0_2 then (some 3) else (if a1_3 < a0_3 then (some 4) else (some 0))) else (some 2)) else (some 1)
set_option maxHeartbeats 8000000 in
set_option maxRecDepth 100000 in
theorem reset_heads.calls (a0_0 : Int) (a0_1 : Int) (a0_2 : Int) (a0_3 : Int) (a1_0 : Int) (a1_1 : Int) (a1_2 : Int) (a1_3 : Int) (r : Int) (w : World) (h : reset_heads.f a0_0 a0_1 a0_2 a0_3 a1_0 a1_1 a1_2 a1_3 = some r) :
  Calls Try.prog 71 #[.agg #[.int .i64 a0_0, .int .u64 a0_1, .int .u64 a0_2, .int .u64 a0_3], .agg #[.int .i64 a1_0, .int .u64 a1_1, .int .u64 a1_2, .int .u64 a1_3]] w fun e w' => e = .returned (.int .i64 r) ∧ Below w.heap.size w w' := by
 have hu134 := Try.underlying134
 have HB := Aside0.mk (Below.refl w.heap.size w)
 have H : (if a0_0 = a1_0 then (if a0_1 = a1_1 then (if a1_2 < a0_2 then (some 3) else (if a1_3 < a0_3 then (some 4) else (some 0))) else (some 2)) else (some 1)) = some r := h
 clear h
 by_cases c3 : a0_0 = a1_0
 ·rw [if_pos c3] at H
  have c3b0 : (a0_0 == a1_0) = true := beq_iff_eq.mpr c3
  have c3b1 : (a0_0 != a1_0) = false := bne_eq_false_iff_eq.mpr c3
  clear c3
  by_cases c4 : a0_1 = a1_1
  ·rw [if_pos c4] at H
   have c4b0 : (a0_1 == a1_1) = true := beq_iff_eq.mpr c4
   have c4b1 : (a0_1 != a1_1) = false := bne_eq_false_iff_eq.mpr c4
   clear c4
   by_cases c5 : a1_2 < a0_2
   ·rw [if_pos c5] at H
    have c5b0 : decide (a1_2 < a0_2) = true := decide_eq_true c5
    clear c5
    obtain rfl := Option.some.inj H
    go_enter Try.func71, Try.ntmps71
    go_wp2_with (first | ((with_reducible refine gate_dst (N := 2) rfl ?_); refine box_event ?hg (N := 2) ?hd (cs := #[.int .i64 a0_0, .int .u64 a0_1, .int .u64 a0_2, .int .u64 a0_3]) (t := 134) ?hr ?_; (case hd => rfl); (case hg => rfl); (case hr => first | (go_simp; done) | (go_simp; rfl)); intro gb101 hg w6 hbox hb; have n0_ := Aside0.mk (below_step (by repeat (first | (with_reducible first | exact HB.out | apply below_alloc | apply pw_below_drewN | apply below_drew1) | exact HB.out)) hb); have n1_ := Aside0.mk (hbox); have n2_ := Aside0.mk ((by rw [hg]; exact (below_size (by repeat (first | (with_reducible first | exact HB.out | apply below_alloc | apply pw_below_drewN | apply below_drew1) | exact HB.out))) : w.heap.size ≤ gb101)); have n3_ := Aside0.mk ((by rw [hg]; exact (below_size (by repeat (first | (with_reducible first | exact HB.out | apply below_alloc | apply pw_below_drewN | apply below_drew1) | exact HB.out))) : w.heap.size ≤ gb101)); clear HB; have HB := n0_; have BK101 := n1_; have GW101 := n2_; have GE101 := n3_; clear n0_ n1_ n2_ n3_; clear hb hbox hg) | ((with_reducible refine gate_dst (N := 3) rfl ?_); refine box_event ?hg (N := 3) ?hd (cs := #[.int .i64 a1_0, .int .u64 a1_1, .int .u64 a1_2, .int .u64 a1_3]) (t := 134) ?hr ?_; (case hd => rfl); (case hg => rfl); (case hr => first | (go_simp; done) | (go_simp; rfl)); intro gb102 hg w7 hbox hb; have n0_ := Aside0.mk (blk_below (g := gb101) (o := .cells #[.int .i64 a0_0, .int .u64 a0_1, .int .u64 a0_2, .int .u64 a0_3] 134 (0, 0)) (by (with_reducible repeat (first | refine blk_drewN ?_ _ | refine blk_drew ?_ | refine blk_alloc ?_ _)); exact BK101.out) hb); have n1_ := Aside0.mk (below_step (by repeat (first | (with_reducible first | exact HB.out | apply below_alloc | apply pw_below_drewN | apply below_drew1 | refine below_set ?_ GE101.out) | exact HB.out)) hb); have n2_ := Aside0.mk (hbox); have n3_ := Aside0.mk ((by rw [hg]; exact (below_size (by repeat (first | (with_reducible first | exact HB.out | apply below_alloc | apply pw_below_drewN | apply below_drew1 | refine below_set ?_ GE101.out) | exact HB.out))) : w.heap.size ≤ gb102)); have n4_ := Aside0.mk ((by rw [hg]; exact (below_size (by repeat (first | (with_reducible first | exact HB.out | apply below_alloc | apply pw_below_drewN | apply below_drew1 | refine below_set ?_ GE101.out) | exact HB.out))) : w.heap.size ≤ gb102)); have n5_ := Aside0.mk ((by rw [hg]; exact Nat.ne_of_lt (blk_lt (g := gb101) (o := .cells #[.int .i64 a0_0, .int .u64 a0_1, .int .u64 a0_2, .int .u64 a0_3] 134 (0, 0)) (by (with_reducible repeat (first | refine blk_drewN ?_ _ | refine blk_drew ?_ | refine blk_alloc ?_ _)); exact BK101.out)) : gb101 ≠ gb102)); have n6_ := Aside0.mk ((by rw [hg]; exact Nat.ne_of_gt (blk_lt (g := gb101) (o := .cells #[.int .i64 a0_0, .int .u64 a0_1, .int .u64 a0_2, .int .u64 a0_3] 134 (0, 0)) (by (with_reducible repeat (first | refine blk_drewN ?_ _ | refine blk_drew ?_ | refine blk_alloc ?_ _)); exact BK101.out)) : gb102 ≠ gb101)); clear BK101; clear HB; have BK101 := n0_; have HB := n1_; have BK102 := n2_; have GW102 := n3_; have GE102 := n4_; have NB101_102 := n5_; have NB102_101 := n6_; clear n0_ n1_ n2_ n3_ n4_ n5_ n6_; clear hb hbox hg; have hnb8 := NB101_102.out; have hnc8 := NB102_101.out; have hcz9_0 : w7.cell? ⟨gb101, 0, none⟩ = some (.int .i64 a0_0) := (blk_cell BK101.out 0).trans rfl; have hcz9_1 : w7.cell? ⟨gb101, 1, none⟩ = some (.int .u64 a0_1) := (blk_cell BK101.out 1).trans rfl; have hcz9_2 : w7.cell? ⟨gb101, 2, none⟩ = some (.int .u64 a0_2) := (blk_cell BK101.out 2).trans rfl; have hcz9_3 : w7.cell? ⟨gb101, 3, none⟩ = some (.int .u64 a0_3) := (blk_cell BK101.out 3).trans rfl; have hfz9_0 := blk_frozen BK101.out 0; have hfz9_1 := blk_frozen BK101.out 1; have hfz9_2 := blk_frozen BK101.out 2; have hfz9_3 := blk_frozen BK101.out 3; have hcz10_0 : w7.cell? ⟨gb102, 0, none⟩ = some (.int .i64 a1_0) := (blk_cell BK102.out 0).trans rfl; have hcz10_1 : w7.cell? ⟨gb102, 1, none⟩ = some (.int .u64 a1_1) := (blk_cell BK102.out 1).trans rfl; have hcz10_2 : w7.cell? ⟨gb102, 2, none⟩ = some (.int .u64 a1_2) := (blk_cell BK102.out 2).trans rfl; have hcz10_3 : w7.cell? ⟨gb102, 3, none⟩ = some (.int .u64 a1_3) := (blk_cell BK102.out 3).trans rfl; have hfz10_0 := blk_frozen BK102.out 0; have hfz10_1 := blk_frozen BK102.out 1; have hfz10_2 := blk_frozen BK102.out 2; have hfz10_3 := blk_frozen BK102.out 3))
    go_ret
    exact ⟨by first | rfl | (simp [errW_none, errW_some] <;> rfl) | (simp [*, errW_none, errW_some] <;> rfl), by repeat (first | (with_reducible first | exact HB.out | apply below_alloc | apply pw_below_drewN | apply below_drew1 | refine below_set ?_ GE101.out | refine below_set ?_ GE102.out) | exact HB.out)⟩
   ·rw [if_neg c5] at H
    have c5b0 : decide (a1_2 < a0_2) = false := decide_eq_false c5
    clear c5
    by_cases c11 : a1_3 < a0_3
    ·rw [if_pos c11] at H
     have c11b0 : decide (a1_3 < a0_3) = true := decide_eq_true c11
     clear c11
     obtain rfl := Option.some.inj H
     go_enter Try.func71, Try.ntmps71
     go_wp2_with (first | ((with_reducible refine gate_dst (N := 2) rfl ?_); refine box_event ?hg (N := 2) ?hd (cs := #[.int .i64 a0_0, .int .u64 a0_1, .int .u64 a0_2, .int .u64 a0_3]) (t := 134) ?hr ?_; (case hd => rfl); (case hg => rfl); (case hr => first | (go_simp; done) | (go_simp; rfl)); intro gb101 hg w12 hbox hb; have n0_ := Aside0.mk (below_step (by repeat (first | (with_reducible first | exact HB.out | apply below_alloc | apply pw_below_drewN | apply below_drew1) | exact HB.out)) hb); have n1_ := Aside0.mk (hbox); have n2_ := Aside0.mk ((by rw [hg]; exact (below_size (by repeat (first | (with_reducible first | exact HB.out | apply below_alloc | apply pw_below_drewN | apply below_drew1) | exact HB.out))) : w.heap.size ≤ gb101)); have n3_ := Aside0.mk ((by rw [hg]; exact (below_size (by repeat (first | (with_reducible first | exact HB.out | apply below_alloc | apply pw_below_drewN | apply below_drew1) | exact HB.out))) : w.heap.size ≤ gb101)); clear HB; have HB := n0_; have BK101 := n1_; have GW101 := n2_; have GE101 := n3_; clear n0_ n1_ n2_ n3_; clear hb hbox hg) | ((with_reducible refine gate_dst (N := 3) rfl ?_); refine box_event ?hg (N := 3) ?hd (cs := #[.int .i64 a1_0, .int .u64 a1_1, .int .u64 a1_2, .int .u64 a1_3]) (t := 134) ?hr ?_; (case hd => rfl); (case hg => rfl); (case hr => first | (go_simp; done) | (go_simp; rfl)); intro gb102 hg w13 hbox hb; have n0_ := Aside0.mk (blk_below (g := gb101) (o := .cells #[.int .i64 a0_0, .int .u64 a0_1, .int .u64 a0_2, .int .u64 a0_3] 134 (0, 0)) (by (with_reducible repeat (first | refine blk_drewN ?_ _ | refine blk_drew ?_ | refine blk_alloc ?_ _)); exact BK101.out) hb); have n1_ := Aside0.mk (below_step (by repeat (first | (with_reducible first | exact HB.out | apply below_alloc | apply pw_below_drewN | apply below_drew1 | refine below_set ?_ GE101.out) | exact HB.out)) hb); have n2_ := Aside0.mk (hbox); have n3_ := Aside0.mk ((by rw [hg]; exact (below_size (by repeat (first | (with_reducible first | exact HB.out | apply below_alloc | apply pw_below_drewN | apply below_drew1 | refine below_set ?_ GE101.out) | exact HB.out))) : w.heap.size ≤ gb102)); have n4_ := Aside0.mk ((by rw [hg]; exact (below_size (by repeat (first | (with_reducible first | exact HB.out | apply below_alloc | apply pw_below_drewN | apply below_drew1 | refine below_set ?_ GE101.out) | exact HB.out))) : w.heap.size ≤ gb102)); have n5_ := Aside0.mk ((by rw [hg]; exact Nat.ne_of_lt (blk_lt (g := gb101) (o := .cells #[.int .i64 a0_0, .int .u64 a0_1, .int .u64 a0_2, .int .u64 a0_3] 134 (0, 0)) (by (with_reducible repeat (first | refine blk_drewN ?_ _ | refine blk_drew ?_ | refine blk_alloc ?_ _)); exact BK101.out)) : gb101 ≠ gb102)); have n6_ := Aside0.mk ((by rw [hg]; exact Nat.ne_of_gt (blk_lt (g := gb101) (o := .cells #[.int .i64 a0_0, .int .u64 a0_1, .int .u64 a0_2, .int .u64 a0_3] 134 (0, 0)) (by (with_reducible repeat (first | refine blk_drewN ?_ _ | refine blk_drew ?_ | refine blk_alloc ?_ _)); exact BK101.out)) : gb102 ≠ gb101)); clear BK101; clear HB; have BK101 := n0_; have HB := n1_; have BK102 := n2_; have GW102 := n3_; have GE102 := n4_; have NB101_102 := n5_; have NB102_101 := n6_; clear n0_ n1_ n2_ n3_ n4_ n5_ n6_; clear hb hbox hg; have hnb14 := NB101_102.out; have hnc14 := NB102_101.out; have hcz15_0 : w13.cell? ⟨gb101, 0, none⟩ = some (.int .i64 a0_0) := (blk_cell BK101.out 0).trans rfl; have hcz15_1 : w13.cell? ⟨gb101, 1, none⟩ = some (.int .u64 a0_1) := (blk_cell BK101.out 1).trans rfl; have hcz15_2 : w13.cell? ⟨gb101, 2, none⟩ = some (.int .u64 a0_2) := (blk_cell BK101.out 2).trans rfl; have hcz15_3 : w13.cell? ⟨gb101, 3, none⟩ = some (.int .u64 a0_3) := (blk_cell BK101.out 3).trans rfl; have hfz15_0 := blk_frozen BK101.out 0; have hfz15_1 := blk_frozen BK101.out 1; have hfz15_2 := blk_frozen BK101.out 2; have hfz15_3 := blk_frozen BK101.out 3; have hcz16_0 : w13.cell? ⟨gb102, 0, none⟩ = some (.int .i64 a1_0) := (blk_cell BK102.out 0).trans rfl; have hcz16_1 : w13.cell? ⟨gb102, 1, none⟩ = some (.int .u64 a1_1) := (blk_cell BK102.out 1).trans rfl; have hcz16_2 : w13.cell? ⟨gb102, 2, none⟩ = some (.int .u64 a1_2) := (blk_cell BK102.out 2).trans rfl; have hcz16_3 : w13.cell? ⟨gb102, 3, none⟩ = some (.int .u64 a1_3) := (blk_cell BK102.out 3).trans rfl; have hfz16_0 := blk_frozen BK102.out 0; have hfz16_1 := blk_frozen BK102.out 1; have hfz16_2 := blk_frozen BK102.out 2; have hfz16_3 := blk_frozen BK102.out 3))
     go_ret
     exact ⟨by first | rfl | (simp [errW_none, errW_some] <;> rfl) | (simp [*, errW_none, errW_some] <;> rfl), by repeat (first | (with_reducible first | exact HB.out | apply below_alloc | apply pw_below_drewN | apply below_drew1 | refine below_set ?_ GE101.out | refine below_set ?_ GE102.out) | exact HB.out)⟩
    ·rw [if_neg c11] at H
     have c11b0 : decide (a1_3 < a0_3) = false := decide_eq_false c11
     clear c11
     obtain rfl := Option.some.inj H
     go_enter Try.func71, Try.ntmps71
     go_wp2_with (first | ((with_reducible refine gate_dst (N := 2) rfl ?_); refine box_event ?hg (N := 2) ?hd (cs := #[.int .i64 a0_0, .int .u64 a0_1, .int .u64 a0_2, .int .u64 a0_3]) (t := 134) ?hr ?_; (case hd => rfl); (case hg => rfl); (case hr => first | (go_simp; done) | (go_simp; rfl)); intro gb101 hg w17 hbox hb; have n0_ := Aside0.mk (below_step (by repeat (first | (with_reducible first | exact HB.out | apply below_alloc | apply pw_below_drewN | apply below_drew1) | exact HB.out)) hb); have n1_ := Aside0.mk (hbox); have n2_ := Aside0.mk ((by rw [hg]; exact (below_size (by repeat (first | (with_reducible first | exact HB.out | apply below_alloc | apply pw_below_drewN | apply below_drew1) | exact HB.out))) : w.heap.size ≤ gb101)); have n3_ := Aside0.mk ((by rw [hg]; exact (below_size (by repeat (first | (with_reducible first | exact HB.out | apply below_alloc | apply pw_below_drewN | apply below_drew1) | exact HB.out))) : w.heap.size ≤ gb101)); clear HB; have HB := n0_; have BK101 := n1_; have GW101 := n2_; have GE101 := n3_; clear n0_ n1_ n2_ n3_; clear hb hbox hg) | ((with_reducible refine gate_dst (N := 3) rfl ?_); refine box_event ?hg (N := 3) ?hd (cs := #[.int .i64 a1_0, .int .u64 a1_1, .int .u64 a1_2, .int .u64 a1_3]) (t := 134) ?hr ?_; (case hd => rfl); (case hg => rfl); (case hr => first | (go_simp; done) | (go_simp; rfl)); intro gb102 hg w18 hbox hb; have n0_ := Aside0.mk (blk_below (g := gb101) (o := .cells #[.int .i64 a0_0, .int .u64 a0_1, .int .u64 a0_2, .int .u64 a0_3] 134 (0, 0)) (by (with_reducible repeat (first | refine blk_drewN ?_ _ | refine blk_drew ?_ | refine blk_alloc ?_ _)); exact BK101.out) hb); have n1_ := Aside0.mk (below_step (by repeat (first | (with_reducible first | exact HB.out | apply below_alloc | apply pw_below_drewN | apply below_drew1 | refine below_set ?_ GE101.out) | exact HB.out)) hb); have n2_ := Aside0.mk (hbox); have n3_ := Aside0.mk ((by rw [hg]; exact (below_size (by repeat (first | (with_reducible first | exact HB.out | apply below_alloc | apply pw_below_drewN | apply below_drew1 | refine below_set ?_ GE101.out) | exact HB.out))) : w.heap.size ≤ gb102)); have n4_ := Aside0.mk ((by rw [hg]; exact (below_size (by repeat (first | (with_reducible first | exact HB.out | apply below_alloc | apply pw_below_drewN | apply below_drew1 | refine below_set ?_ GE101.out) | exact HB.out))) : w.heap.size ≤ gb102)); have n5_ := Aside0.mk ((by rw [hg]; exact Nat.ne_of_lt (blk_lt (g := gb101) (o := .cells #[.int .i64 a0_0, .int .u64 a0_1, .int .u64 a0_2, .int .u64 a0_3] 134 (0, 0)) (by (with_reducible repeat (first | refine blk_drewN ?_ _ | refine blk_drew ?_ | refine blk_alloc ?_ _)); exact BK101.out)) : gb101 ≠ gb102)); have n6_ := Aside0.mk ((by rw [hg]; exact Nat.ne_of_gt (blk_lt (g := gb101) (o := .cells #[.int .i64 a0_0, .int .u64 a0_1, .int .u64 a0_2, .int .u64 a0_3] 134 (0, 0)) (by (with_reducible repeat (first | refine blk_drewN ?_ _ | refine blk_drew ?_ | refine blk_alloc ?_ _)); exact BK101.out)) : gb102 ≠ gb101)); clear BK101; clear HB; have BK101 := n0_; have HB := n1_; have BK102 := n2_; have GW102 := n3_; have GE102 := n4_; have NB101_102 := n5_; have NB102_101 := n6_; clear n0_ n1_ n2_ n3_ n4_ n5_ n6_; clear hb hbox hg; have hnb19 := NB101_102.out; have hnc19 := NB102_101.out; have hcz20_0 : w18.cell? ⟨gb101, 0, none⟩ = some (.int .i64 a0_0) := (blk_cell BK101.out 0).trans rfl; have hcz20_1 : w18.cell? ⟨gb101, 1, none⟩ = some (.int .u64 a0_1) := (blk_cell BK101.out 1).trans rfl; have hcz20_2 : w18.cell? ⟨gb101, 2, none⟩ = some (.int .u64 a0_2) := (blk_cell BK101.out 2).trans rfl; have hcz20_3 : w18.cell? ⟨gb101, 3, none⟩ = some (.int .u64 a0_3) := (blk_cell BK101.out 3).trans rfl; have hfz20_0 := blk_frozen BK101.out 0; have hfz20_1 := blk_frozen BK101.out 1; have hfz20_2 := blk_frozen BK101.out 2; have hfz20_3 := blk_frozen BK101.out 3; have hcz21_0 : w18.cell? ⟨gb102, 0, none⟩ = some (.int .i64 a1_0) := (blk_cell BK102.out 0).trans rfl; have hcz21_1 : w18.cell? ⟨gb102, 1, none⟩ = some (.int .u64 a1_1) := (blk_cell BK102.out 1).trans rfl; have hcz21_2 : w18.cell? ⟨gb102, 2, none⟩ = some (.int .u64 a1_2) := (blk_cell BK102.out 2).trans rfl; have hcz21_3 : w18.cell? ⟨gb102, 3, none⟩ = some (.int .u64 a1_3) := (blk_cell BK102.out 3).trans rfl; have hfz21_0 := blk_frozen BK102.out 0; have hfz21_1 := blk_frozen BK102.out 1; have hfz21_2 := blk_frozen BK102.out 2; have hfz21_3 := blk_frozen BK102.out 3))
     go_ret
     exact ⟨by first | rfl | (simp [errW_none, errW_some] <;> rfl) | (simp [*, errW_none, errW_some] <;> rfl), by repeat (first | (with_reducible first | exact HB.out | apply below_alloc | apply pw_below_drewN | apply below_drew1 | refine below_set ?_ GE101.out | refine below_set ?_ GE102.out) | exact HB.out)⟩
  ·rw [if_neg c4] at H
   have c4b0 : (a0_1 == a1_1) = false := beq_eq_false_iff_ne.mpr c4
   have c4b1 : (a0_1 != a1_1) = true := bne_iff_ne.mpr c4
   obtain rfl := Option.some.inj H
   go_enter Try.func71, Try.ntmps71
   go_wp2_with (first | ((with_reducible refine gate_dst (N := 2) rfl ?_); refine box_event ?hg (N := 2) ?hd (cs := #[.int .i64 a0_0, .int .u64 a0_1, .int .u64 a0_2, .int .u64 a0_3]) (t := 134) ?hr ?_; (case hd => rfl); (case hg => rfl); (case hr => first | (go_simp; done) | (go_simp; rfl)); intro gb101 hg w22 hbox hb; have n0_ := Aside0.mk (below_step (by repeat (first | (with_reducible first | exact HB.out | apply below_alloc | apply pw_below_drewN | apply below_drew1) | exact HB.out)) hb); have n1_ := Aside0.mk (hbox); have n2_ := Aside0.mk ((by rw [hg]; exact (below_size (by repeat (first | (with_reducible first | exact HB.out | apply below_alloc | apply pw_below_drewN | apply below_drew1) | exact HB.out))) : w.heap.size ≤ gb101)); have n3_ := Aside0.mk ((by rw [hg]; exact (below_size (by repeat (first | (with_reducible first | exact HB.out | apply below_alloc | apply pw_below_drewN | apply below_drew1) | exact HB.out))) : w.heap.size ≤ gb101)); clear HB; have HB := n0_; have BK101 := n1_; have GW101 := n2_; have GE101 := n3_; clear n0_ n1_ n2_ n3_; clear hb hbox hg) | ((with_reducible refine gate_dst (N := 3) rfl ?_); refine box_event ?hg (N := 3) ?hd (cs := #[.int .i64 a1_0, .int .u64 a1_1, .int .u64 a1_2, .int .u64 a1_3]) (t := 134) ?hr ?_; (case hd => rfl); (case hg => rfl); (case hr => first | (go_simp; done) | (go_simp; rfl)); intro gb102 hg w23 hbox hb; have n0_ := Aside0.mk (blk_below (g := gb101) (o := .cells #[.int .i64 a0_0, .int .u64 a0_1, .int .u64 a0_2, .int .u64 a0_3] 134 (0, 0)) (by (with_reducible repeat (first | refine blk_drewN ?_ _ | refine blk_drew ?_ | refine blk_alloc ?_ _)); exact BK101.out) hb); have n1_ := Aside0.mk (below_step (by repeat (first | (with_reducible first | exact HB.out | apply below_alloc | apply pw_below_drewN | apply below_drew1 | refine below_set ?_ GE101.out) | exact HB.out)) hb); have n2_ := Aside0.mk (hbox); have n3_ := Aside0.mk ((by rw [hg]; exact (below_size (by repeat (first | (with_reducible first | exact HB.out | apply below_alloc | apply pw_below_drewN | apply below_drew1 | refine below_set ?_ GE101.out) | exact HB.out))) : w.heap.size ≤ gb102)); have n4_ := Aside0.mk ((by rw [hg]; exact (below_size (by repeat (first | (with_reducible first | exact HB.out | apply below_alloc | apply pw_below_drewN | apply below_drew1 | refine below_set ?_ GE101.out) | exact HB.out))) : w.heap.size ≤ gb102)); have n5_ := Aside0.mk ((by rw [hg]; exact Nat.ne_of_lt (blk_lt (g := gb101) (o := .cells #[.int .i64 a0_0, .int .u64 a0_1, .int .u64 a0_2, .int .u64 a0_3] 134 (0, 0)) (by (with_reducible repeat (first | refine blk_drewN ?_ _ | refine blk_drew ?_ | refine blk_alloc ?_ _)); exact BK101.out)) : gb101 ≠ gb102)); have n6_ := Aside0.mk ((by rw [hg]; exact Nat.ne_of_gt (blk_lt (g := gb101) (o := .cells #[.int .i64 a0_0, .int .u64 a0_1, .int .u64 a0_2, .int .u64 a0_3] 134 (0, 0)) (by (with_reducible repeat (first | refine blk_drewN ?_ _ | refine blk_drew ?_ | refine blk_alloc ?_ _)); exact BK101.out)) : gb102 ≠ gb101)); clear BK101; clear HB; have BK101 := n0_; have HB := n1_; have BK102 := n2_; have GW102 := n3_; have GE102 := n4_; have NB101_102 := n5_; have NB102_101 := n6_; clear n0_ n1_ n2_ n3_ n4_ n5_ n6_; clear hb hbox hg; have hnb24 := NB101_102.out; have hnc24 := NB102_101.out; have hcz25_0 : w23.cell? ⟨gb101, 0, none⟩ = some (.int .i64 a0_0) := (blk_cell BK101.out 0).trans rfl; have hcz25_1 : w23.cell? ⟨gb101, 1, none⟩ = some (.int .u64 a0_1) := (blk_cell BK101.out 1).trans rfl; have hcz25_2 : w23.cell? ⟨gb101, 2, none⟩ = some (.int .u64 a0_2) := (blk_cell BK101.out 2).trans rfl; have hcz25_3 : w23.cell? ⟨gb101, 3, none⟩ = some (.int .u64 a0_3) := (blk_cell BK101.out 3).trans rfl; have hfz25_0 := blk_frozen BK101.out 0; have hfz25_1 := blk_frozen BK101.out 1; have hfz25_2 := blk_frozen BK101.out 2; have hfz25_3 := blk_frozen BK101.out 3; have hcz26_0 : w23.cell? ⟨gb102, 0, none⟩ = some (.int .i64 a1_0) := (blk_cell BK102.out 0).trans rfl; have hcz26_1 : w23.cell? ⟨gb102, 1, none⟩ = some (.int .u64 a1_1) := (blk_cell BK102.out 1).trans rfl; have hcz26_2 : w23.cell? ⟨gb102, 2, none⟩ = some (.int .u64 a1_2) := (blk_cell BK102.out 2).trans rfl; have hcz26_3 : w23.cell? ⟨gb102, 3, none⟩ = some (.int .u64 a1_3) := (blk_cell BK102.out 3).trans rfl; have hfz26_0 := blk_frozen BK102.out 0; have hfz26_1 := blk_frozen BK102.out 1; have hfz26_2 := blk_frozen BK102.out 2; have hfz26_3 := blk_frozen BK102.out 3))
   go_ret
   exact ⟨by first | rfl | (simp [errW_none, errW_some] <;> rfl) | (simp [*, errW_none, errW_some] <;> rfl), by repeat (first | (with_reducible first | exact HB.out | apply below_alloc | apply pw_below_drewN | apply below_drew1 | refine below_set ?_ GE101.out | refine below_set ?_ GE102.out) | exact HB.out)⟩
 ·rw [if_neg c3] at H
  have c3b0 : (a0_0 == a1_0) = false := beq_eq_false_iff_ne.mpr c3
  have c3b1 : (a0_0 != a1_0) = true := bne_iff_ne.mpr c3
  obtain rfl := Option.some.inj H
  go_enter Try.func71, Try.ntmps71
  go_wp2_with (first | ((with_reducible refine gate_dst (N := 2) rfl ?_); refine box_event ?hg (N := 2) ?hd (cs := #[.int .i64 a0_0, .int .u64 a0_1, .int .u64 a0_2, .int .u64 a0_3]) (t := 134) ?hr ?_; (case hd => rfl); (case hg => rfl); (case hr => first | (go_simp; done) | (go_simp; rfl)); intro gb101 hg w27 hbox hb; have n0_ := Aside0.mk (below_step (by repeat (first | (with_reducible first | exact HB.out | apply below_alloc | apply pw_below_drewN | apply below_drew1) | exact HB.out)) hb); have n1_ := Aside0.mk (hbox); have n2_ := Aside0.mk ((by rw [hg]; exact (below_size (by repeat (first | (with_reducible first | exact HB.out | apply below_alloc | apply pw_below_drewN | apply below_drew1) | exact HB.out))) : w.heap.size ≤ gb101)); have n3_ := Aside0.mk ((by rw [hg]; exact (below_size (by repeat (first | (with_reducible first | exact HB.out | apply below_alloc | apply pw_below_drewN | apply below_drew1) | exact HB.out))) : w.heap.size ≤ gb101)); clear HB; have HB := n0_; have BK101 := n1_; have GW101 := n2_; have GE101 := n3_; clear n0_ n1_ n2_ n3_; clear hb hbox hg) | ((with_reducible refine gate_dst (N := 3) rfl ?_); refine box_event ?hg (N := 3) ?hd (cs := #[.int .i64 a1_0, .int .u64 a1_1, .int .u64 a1_2, .int .u64 a1_3]) (t := 134) ?hr ?_; (case hd => rfl); (case hg => rfl); (case hr => first | (go_simp; done) | (go_simp; rfl)); intro gb102 hg w28 hbox hb; have n0_ := Aside0.mk (blk_below (g := gb101) (o := .cells #[.int .i64 a0_0, .int .u64 a0_1, .int .u64 a0_2, .int .u64 a0_3] 134 (0, 0)) (by (with_reducible repeat (first | refine blk_drewN ?_ _ | refine blk_drew ?_ | refine blk_alloc ?_ _)); exact BK101.out) hb); have n1_ := Aside0.mk (below_step (by repeat (first | (with_reducible first | exact HB.out | apply below_alloc | apply pw_below_drewN | apply below_drew1 | refine below_set ?_ GE101.out) | exact HB.out)) hb); have n2_ := Aside0.mk (hbox); have n3_ := Aside0.mk ((by rw [hg]; exact (below_size (by repeat (first | (with_reducible first | exact HB.out | apply below_alloc | apply pw_below_drewN | apply below_drew1 | refine below_set ?_ GE101.out) | exact HB.out))) : w.heap.size ≤ gb102)); have n4_ := Aside0.mk ((by rw [hg]; exact (below_size (by repeat (first | (with_reducible first | exact HB.out | apply below_alloc | apply pw_below_drewN | apply below_drew1 | refine below_set ?_ GE101.out) | exact HB.out))) : w.heap.size ≤ gb102)); have n5_ := Aside0.mk ((by rw [hg]; exact Nat.ne_of_lt (blk_lt (g := gb101) (o := .cells #[.int .i64 a0_0, .int .u64 a0_1, .int .u64 a0_2, .int .u64 a0_3] 134 (0, 0)) (by (with_reducible repeat (first | refine blk_drewN ?_ _ | refine blk_drew ?_ | refine blk_alloc ?_ _)); exact BK101.out)) : gb101 ≠ gb102)); have n6_ := Aside0.mk ((by rw [hg]; exact Nat.ne_of_gt (blk_lt (g := gb101) (o := .cells #[.int .i64 a0_0, .int .u64 a0_1, .int .u64 a0_2, .int .u64 a0_3] 134 (0, 0)) (by (with_reducible repeat (first | refine blk_drewN ?_ _ | refine blk_drew ?_ | refine blk_alloc ?_ _)); exact BK101.out)) : gb102 ≠ gb101)); clear BK101; clear HB; have BK101 := n0_; have HB := n1_; have BK102 := n2_; have GW102 := n3_; have GE102 := n4_; have NB101_102 := n5_; have NB102_101 := n6_; clear n0_ n1_ n2_ n3_ n4_ n5_ n6_; clear hb hbox hg; have hnb29 := NB101_102.out; have hnc29 := NB102_101.out; have hcz30_0 : w28.cell? ⟨gb101, 0, none⟩ = some (.int .i64 a0_0) := (blk_cell BK101.out 0).trans rfl; have hcz30_1 : w28.cell? ⟨gb101, 1, none⟩ = some (.int .u64 a0_1) := (blk_cell BK101.out 1).trans rfl; have hcz30_2 : w28.cell? ⟨gb101, 2, none⟩ = some (.int .u64 a0_2) := (blk_cell BK101.out 2).trans rfl; have hcz30_3 : w28.cell? ⟨gb101, 3, none⟩ = some (.int .u64 a0_3) := (blk_cell BK101.out 3).trans rfl; have hfz30_0 := blk_frozen BK101.out 0; have hfz30_1 := blk_frozen BK101.out 1; have hfz30_2 := blk_frozen BK101.out 2; have hfz30_3 := blk_frozen BK101.out 3; have hcz31_0 : w28.cell? ⟨gb102, 0, none⟩ = some (.int .i64 a1_0) := (blk_cell BK102.out 0).trans rfl; have hcz31_1 : w28.cell? ⟨gb102, 1, none⟩ = some (.int .u64 a1_1) := (blk_cell BK102.out 1).trans rfl; have hcz31_2 : w28.cell? ⟨gb102, 2, none⟩ = some (.int .u64 a1_2) := (blk_cell BK102.out 2).trans rfl; have hcz31_3 : w28.cell? ⟨gb102, 3, none⟩ = some (.int .u64 a1_3) := (blk_cell BK102.out 3).trans rfl; have hfz31_0 := blk_frozen BK102.out 0; have hfz31_1 := blk_frozen BK102.out 1; have hfz31_2 := blk_frozen BK102.out 2; have hfz31_3 := blk_frozen BK102.out 3))
  go_ret
  exact ⟨by first | rfl | (simp [errW_none, errW_some] <;> rfl) | (simp [*, errW_none, errW_some] <;> rfl), by repeat (first | (with_reducible first | exact HB.out | apply below_alloc | apply pw_below_drewN | apply below_drew1 | refine below_set ?_ GE101.out | refine below_set ?_ GE102.out) | exact HB.out)⟩
end Go.Proofs.Ytgkplhdcafbfbaa.P
namespace Go.Proofs.Ytgkplhdcafbfbaa.P
open Go.RowKit Go.Shelf Go.Proofs.YtgkplhdcafbfbaaW.PrintWords Go.Proofs.YtgkplhdcafbfbaaW.PrintLast Go.Proofs.YtgkplhdcafbfbaaW.PrintMore
def lessI (a b : List Pr) : Int × Bool := match a.find? (fun p => decide (look (fun q : Pr => q.f0) (fun q : Pr => q.f1) b p.f0 < p.f1)) with | some p => (p.f0, true) | none => (0, false)
theorem lessI_in (a : List Pr) (la i P V : Int) (m : Nat) (r : Option (Int × Bool)) : ∀ (b : List Pr) (k : Nat), b.length + m + 1 < k → (∀ k', (dropTo (fun q : Pr => q.f0) P b).length + m < k' → reset_less_int64.j2 k' (dropTo (fun q : Pr => q.f0) P b) 0 a la i P V = r) → reset_less_int64.l1 k b 0 a la i P V = r
  | [], k, hk, hj => by
    simp only [List.length_nil] at hk
    obtain ⟨k, rfl⟩ : ∃ n, k = n + 1 := ⟨k - 1, by omega⟩
    rw [reset_less_int64.l1, if_neg (by simp)]
    exact hj k (by simp only [dropTo, List.length_nil]; omega)
  | x :: b, k, hk, hj => by
    simp only [List.length_cons] at hk
    obtain ⟨k, rfl⟩ : ∃ n, k = n + 1 := ⟨k - 1, by omega⟩
    have h0 : rd_T62 (x :: b) 0 = x := rdPr_at (l := x :: b) (i := 0) (by simp)
    rw [reset_less_int64.l1, if_pos (by simp <;> omega), if_pos (by simp <;> omega), h0]
    by_cases c : x.f0 < P
    · rw [if_pos c, if_pos (by simp <;> omega)]
      have hd : dropTo (fun q : Pr => q.f0) P (x :: b) = dropTo (fun q : Pr => q.f0) P b := by simp only [dropTo]; rw [if_pos c]
      rw [hd] at hj
      exact lessI_in a la i P V m r b k (by omega) hj
    · rw [if_neg c]
      have hd : dropTo (fun q : Pr => q.f0) P (x :: b) = x :: b := by simp only [dropTo]; rw [if_neg c]
      rw [hd] at hj
      exact hj k (by simp only [List.length_cons]; omega)
theorem lessI_loop (a b : List Pr) (ha : Ups (fun q : Pr => q.f0) a) (hm : a.length < 4611686018427387904) : ∀ (d k i : Nat) (b' : List Pr), a.length - i = d → b'.length + 5 * d + 1 < k → i ≤ a.length → Ups (fun q : Pr => q.f0) b' → (∀ x ∈ a.drop i, look (fun q : Pr => q.f0) (fun q : Pr => q.f1) b' x.f0 = look (fun q : Pr => q.f0) (fun q : Pr => q.f1) b x.f0) →
    reset_less_int64.l0 k b' 0 a (a.length : Int) (i : Int) = some (lessI (a.drop i) b) := by
  intro d
  induction d with
  | zero =>
    intro k i b' hd hk hi hu hl
    obtain ⟨k, rfl⟩ : ∃ n, k = n + 1 := ⟨k - 1, by omega⟩
    rw [reset_less_int64.l0, if_neg (by omega), drop_end (by omega)]; rfl
  | succ d ih =>
    intro k i b' hd hk hi hu hl
    obtain ⟨k, rfl⟩ : ∃ n, k = n + 1 := ⟨k - 1, by omega⟩
    have hlt : i < a.length := by omega
    have hau : Ups (fun q : Pr => q.f0) (a.drop i) := List.Pairwise.sublist (List.drop_sublist i a) ha
    rw [drop_at hlt] at hl hau
    rw [reset_less_int64.l0, if_pos (by omega), if_pos (by omega), if_pos (by omega), rdPr_at hlt, drop_at hlt]
    have hhd : ∀ y ∈ a.drop (i + 1), a[i].f0 < y.f0 := fun y hy => Ups.head hau y hy
    have hx := hl a[i] (List.mem_cons_self ..)
    have hh := dropTo_head (val := fun q : Pr => q.f1) (p := a[i].f0) b' hu
    have hrec : ∀ k', (dropTo (fun q : Pr => q.f0) a[i].f0 b').length + 5 * d + 1 < k' → reset_less_int64.l0 k' (dropTo (fun q : Pr => q.f0) a[i].f0 b') 0 a (a.length : Int) ((i + 1 : Nat) : Int) = some (lessI (a.drop (i + 1)) b) := fun k' hk' =>
      ih k' (i + 1) _ (by omega) (by omega) (by omega) (dropTo_ups b' hu) (fun y hy => by
        rw [dropTo_look (val := fun q : Pr => q.f1) (Int.le_of_lt (hhd y hy)) b']
        exact hl y (List.mem_cons_of_mem _ hy))
    have hres : lessI (a[i] :: a.drop (i + 1)) b = if look (fun q : Pr => q.f0) (fun q : Pr => q.f1) b a[i].f0 < a[i].f1 then (a[i].f0, true) else lessI (a.drop (i + 1)) b := by
      unfold lessI
      rw [List.find?_cons]
      by_cases c : look (fun q : Pr => q.f0) (fun q : Pr => q.f1) b a[i].f0 < a[i].f1
      · rw [decide_eq_true c, if_pos c]
      · rw [decide_eq_false c, if_neg c]
    rw [hres, ← hx]
    refine lessI_in a _ _ _ _ (5 * d + 3) _ b' k (by omega) ?_
    · intro k' hk'
      obtain ⟨k', rfl⟩ : ∃ n, k' = n + 2 := ⟨k' - 2, by omega⟩
      generalize dropTo (fun q : Pr => q.f0) a[i].f0 b' = D at *
      rw [reset_less_int64.j2]
      cases D with
      | nil =>
        rw [if_neg (by simp), reset_less_int64.j3, if_neg (by simp), hh]
        by_cases c : (0 : Int) < a[i].f1
        · rw [if_pos c]; simp only [if_pos c]
        · rw [if_neg c, wrap_succ (by omega), hrec k' (by omega)]; simp only [if_neg c]
      | cons y D =>
        have h0 : rd_T62 (y :: D) 0 = y := rdPr_at (l := y :: D) (i := 0) (by simp)
        rw [if_pos (by simp <;> omega), if_pos (by simp <;> omega), h0, reset_less_int64.j3, h0]
        simp only at hh
        by_cases c : y.f0 = a[i].f0
        · rw [if_pos c] at hh
          rw [if_pos (by simpa using c), if_pos (by simp <;> omega), hh]
          by_cases c2 : y.f1 < a[i].f1
          · rw [if_pos c2]; simp only [if_pos c2]
          · rw [if_neg c2, wrap_succ (by omega), hrec k' (by omega)]; simp only [if_neg c2]
        · rw [if_neg c] at hh
          rw [if_neg (by simpa using c), hh]
          by_cases c2 : (0 : Int) < a[i].f1
          · rw [if_pos c2]; simp only [if_pos c2]
          · rw [if_neg c2, wrap_succ (by omega), hrec k' (by omega)]; simp only [if_neg c2]
theorem lessI_eq (a b : List Pr) (ha : Ups (fun q : Pr => q.f0) a) (hb : Ups (fun q : Pr => q.f0) b) (hm : a.length < 4611686018427387904) (k : Nat) (hk : b.length + 5 * a.length + 1 < k) : reset_less_int64.f k a b = some (lessI a b) := by
  unfold reset_less_int64.f
  exact lessI_loop a b ha hm a.length k 0 b (by omega) hk (by omega) hb (fun x _ => rfl)
end Go.Proofs.Ytgkplhdcafbfbaa.P
namespace Go.Proofs.Ytgkplhdcafbfbaa.P
open Go.RowKit Go.Proofs.YtgkplhdcafbfbaaW.PrintWords Go.Proofs.YtgkplhdcafbfbaaW.PrintLast Go.Proofs.YtgkplhdcafbfbaaW.PrintMore
def numsV (s t zero other count c zc z : Int) : Int := if s ≠ t then 1 else if zero ≠ other then 2 else if c < count then 3 else if z < zc then 4 else 0
def headsR (a b : Hi) : Int := numsV a.f0 b.f0 a.f1 b.f1 a.f3 b.f3 a.f2 b.f2
def verdR (hd : Int) (lp ln : Int × Bool) : Int × Int := if hd ≠ 0 then (hd, 0) else if lp.2 = true then (5, lp.1) else if ln.2 = true then (6, ln.1) else (0, 0)
def intsV (a b : Hi) : Int × Int := verdR (headsR a b) (lessI (openR a).1 (openR b).1) (lessI (openR a).2.1 (openR b).2.1)
def intsR (a b : Hi) : (Int × Int) × Int := if checkR a ≠ 0 then ((0, 0), checkR a) else if checkR b ≠ 0 then ((0, 0), checkR b) else (intsV a b, 0)
theorem verdR_zero {hd : Int} {lp ln : Int × Bool} : (verdR hd lp ln).1 = 0 ↔ hd = 0 ∧ lp.2 = false ∧ ln.2 = false := by
  unfold verdR
  by_cases c1 : hd = 0
  · rw [if_neg (by simp [c1])]
    cases c2 : lp.2
    · rw [if_neg (by simp)]
      cases c3 : ln.2
      · rw [if_neg (by simp)]; simp [c1]
      · rw [if_pos rfl]; simp
    · rw [if_pos rfl]; simp
  · rw [if_pos c1]; simp [c1]
theorem numsV_zero {s t zero other count c zc z : Int} : numsV s t zero other count c zc z = 0 ↔ s = t ∧ zero = other ∧ count ≤ c ∧ zc ≤ z := by
  unfold numsV
  constructor
  · intro h
    split at h
    · cases h
    split at h
    · cases h
    split at h
    · cases h
    split at h
    · cases h
    exact ⟨by omega, by omega, by omega, by omega⟩
  · rintro ⟨h1, h2, h3, h4⟩
    rw [if_neg (by omega), if_neg (by omega), if_neg (by omega), if_neg (by omega)]
theorem lessI_none {a b : List Pr} : (lessI a b).2 = false ↔ ∀ p ∈ a, p.f1 ≤ lookPr b p.f0 := by
  unfold lessI
  cases h : a.find? (fun p => decide (look (fun q : Pr => q.f0) (fun q : Pr => q.f1) b p.f0 < p.f1)) with
  | none =>
    rw [List.find?_eq_none] at h
    refine ⟨fun _ p hp => ?_, fun _ => rfl⟩
    have := h p hp
    rw [decide_eq_true_eq] at this
    exact Int.not_lt.1 this
  | some x =>
    have h1 := List.find?_some h
    have h2 := List.mem_of_find?_eq_some h
    rw [decide_eq_true_eq] at h1
    refine ⟨fun hx => by simp at hx, fun hx => absurd h1 (Int.not_lt.2 (hx x h2))⟩
theorem look_nonneg {b : List Pr} (hb : cnts b) (p : Int) : 0 ≤ lookPr b p := by
  rcases look_or (key := fun q : Pr => q.f0) (val := fun q : Pr => q.f1) b p with ⟨x, hx, -, h⟩ | ⟨-, h⟩
  · rw [lookPr, h]; exact (hb x hx).2.1
  · rw [lookPr, h]; exact Int.le_refl 0
theorem look_some0 : ∀ (b : List Pr), Ups (fun q : Pr => q.f0) b → ∀ p, lookPr (some0 b) p = lookPr b p
  | [], _, _ => rfl
  | x :: b, hu, p => by
    have ih := look_some0 b hu.tail p
    rw [lookPr_cons]
    unfold some0 at ih ⊢
    rw [List.filter_cons]
    by_cases c : x.f1 = 0
    · rw [if_neg (by simp [c]), ih]
      by_cases c2 : x.f0 = p
      · rw [if_pos c2, c]
        exact look_none (fun y hy => by have := hu.head y hy; omega)
      · rw [if_neg c2]
    · rw [if_pos (by simp [c]), lookPr_cons, ih]
theorem lessI_right {a b : List Pr} (hb : Ups (fun q : Pr => q.f0) b) : lessI a (some0 b) = lessI a b := by
  unfold lessI
  have : (fun p : Pr => decide (look (fun q : Pr => q.f0) (fun q : Pr => q.f1) (some0 b) p.f0 < p.f1)) = fun p : Pr => decide (look (fun q : Pr => q.f0) (fun q : Pr => q.f1) b p.f0 < p.f1) := by
    funext p
    have := look_some0 b hb p.f0
    unfold lookPr at this
    rw [this]
  rw [this]
theorem find_some0 (P : Pr → Bool) (hP : ∀ p, p.f1 = 0 → P p = false) : ∀ (a : List Pr), (some0 a).find? P = a.find? P
  | [] => rfl
  | x :: a => by
    have ih := find_some0 P hP a
    unfold some0 at ih ⊢
    rw [List.filter_cons, List.find?_cons]
    by_cases c : x.f1 = 0
    · rw [if_neg (by simp [c]), ih, hP x c]
    · rw [if_pos (by simp [c]), List.find?_cons, ih]
theorem lessI_left {a b : List Pr} (hb : cnts b) : lessI (some0 a) b = lessI a b := by
  unfold lessI
  rw [find_some0 _ (fun p h => by have := look_nonneg hb p.f0; unfold lookPr at this; rw [decide_eq_false_iff_not, h]; omega) a]
theorem intsV_fst {a b : Hi} (h : (intsV a b).1 = 0) : intsV a b = (0, 0) := by
  unfold intsV at *
  rw [verdR_zero] at h
  unfold verdR
  rw [if_neg (by simp [h.1]), if_neg (by simp [h.2.1]), if_neg (by simp [h.2.2])]
end Go.Proofs.Ytgkplhdcafbfbaa.P
namespace Go.Proofs.Ytgkplhdcafbfbaa.P
open Go.RowKit Go.Shelf Go.Proofs.YtgkplhdcafbfbaaW.PrintWords Go.Proofs.YtgkplhdcafbfbaaW.PrintLast Go.Proofs.YtgkplhdcafbfbaaW.PrintMore
def sumIf (P : Int → Bool) : List Pr → Int
  | [] => 0
  | p :: t => (if P p.f0 = true then p.f1 else 0) + sumIf P t
def sumAt (s q : Int) (l : List Pr) : Int := sumIf (fun i => decide (placeR i s = q)) l
theorem sumIf_nonneg (P : Int → Bool) : ∀ (l : List Pr), (∀ p ∈ l, 0 ≤ p.f1) → 0 ≤ sumIf P l
  | [], _ => Int.le_refl 0
  | p :: t, h => by
    have h1 := h p (by simp)
    have h2 := sumIf_nonneg P t (fun q hq => h q (List.mem_cons_of_mem _ hq))
    rw [sumIf]
    split <;> omega
theorem sumIf_none (P : Int → Bool) : ∀ (l : List Pr), (∀ p ∈ l, P p.f0 = false) → sumIf P l = 0
  | [], _ => rfl
  | p :: t, h => by
    rw [sumIf, sumIf_none P t (fun q hq => h q (List.mem_cons_of_mem _ hq)), h p (by simp)]
    rfl
theorem lookPr_nil (p : Int) : lookPr [] p = 0 := rfl
theorem lookPr_behind {l : List Pr} {p : Int} (h : ∀ x ∈ l, p < x.f0) : lookPr l p = 0 := look_none (fun y hy => by have := h y hy; omega)
theorem sumIf_mono (P : Int → Bool) : ∀ (n : Nat) (a b : List Pr), a.length + b.length ≤ n → Ups (fun q : Pr => q.f0) a → Ups (fun q : Pr => q.f0) b → (∀ p ∈ a, 0 ≤ p.f1) → (∀ p ∈ b, 0 ≤ p.f1) → (∀ p ∈ a, p.f1 ≤ lookPr b p.f0) → sumIf P a ≤ sumIf P b := by
  intro n
  induction n with
  | zero =>
    intro a b h _ _ _ hb _
    obtain rfl : a = [] := List.eq_nil_of_length_eq_zero (by omega)
    exact sumIf_nonneg P b hb
  | succ n ih =>
    intro a b h ua ub ha hb hl
    match a, b with
    | [], b => exact sumIf_nonneg P b hb
    | x :: a, [] =>
      have h0 := hl x (by simp)
      rw [lookPr_nil] at h0
      have := ih a [] (by simp at h ⊢; omega) ua.tail ub (fun p hp => ha p (List.mem_cons_of_mem _ hp)) hb (fun p hp => hl p (List.mem_cons_of_mem _ hp))
      rw [sumIf.eq_2 P x a]
      split <;> omega
    | x :: a, y :: b =>
      have hx0 := ha x (by simp)
      have hy0 := hb y (by simp)
      have hb' : ∀ p ∈ b, 0 ≤ p.f1 := fun p hp => hb p (List.mem_cons_of_mem _ hp)
      have ha' : ∀ p ∈ a, 0 ≤ p.f1 := fun p hp => ha p (List.mem_cons_of_mem _ hp)
      rcases Int.lt_trichotomy y.f0 x.f0 with c | c | c
      · have hl' : ∀ p ∈ x :: a, p.f1 ≤ lookPr b p.f0 := by
          intro p hp
          have := hl p hp
          have hne : y.f0 ≠ p.f0 := by
            rcases List.mem_cons.1 hp with rfl | hp
            · omega
            · have := ua.head p hp; omega
          rwa [lookPr_cons, if_neg hne] at this
        have := ih (x :: a) b (by simp at h ⊢; omega) ua ub.tail ha hb' hl'
        rw [sumIf.eq_2 P y b]
        split <;> omega
      · have hl' : ∀ p ∈ a, p.f1 ≤ lookPr b p.f0 := by
          intro p hp
          have := hl p (List.mem_cons_of_mem _ hp)
          have hne : y.f0 ≠ p.f0 := by have := ua.head p hp; omega
          rwa [lookPr_cons, if_neg hne] at this
        have := ih a b (by simp at h; omega) ua.tail ub.tail ha' hb' hl'
        have h0 := hl x (by simp)
        rw [lookPr_cons, if_pos c] at h0
        rw [sumIf, sumIf, c]
        split <;> omega
      · have h0 := hl x (by simp)
        have hbh : ∀ z ∈ y :: b, x.f0 < z.f0 := by
          intro z hz
          rcases List.mem_cons.1 hz with rfl | hz
          · exact c
          · have := ub.head z hz
            omega
        rw [lookPr_behind hbh] at h0
        have := ih a (y :: b) (by simp at h ⊢; omega) ua.tail ub ha' hb (fun p hp => hl p (List.mem_cons_of_mem _ hp))
        rw [sumIf.eq_2 P x a]
        split <;> omega
theorem widenGo_look (s q : Int) : ∀ (l : List Pr) (cur : Pr) (r : List Pr), widenGo s cur l = some r → Ups (fun p : Pr => p.f0) l → (∀ x ∈ l, cur.f0 ≤ placeR x.f0 s) → lookPr r q = (if cur.f0 = q then cur.f1 else 0) + sumAt s q l := by
  intro l
  induction l with
  | nil =>
    intro cur r h _ _
    cases h
    rw [lookPr_cons, lookPr_nil]
    simp [sumAt, sumIf]
  | cons p t ih =>
    intro cur r h hu hle
    have hm : ∀ x ∈ t, placeR p.f0 s ≤ placeR x.f0 s := fun x hx => place_mono (Int.le_of_lt (hu.head x hx))
    have hp := hle p (by simp)
    simp only [widenGo] at h
    unfold sumAt at *
    rw [sumIf]
    split at h
    · rename_i he
      split at h
      · have := ih _ _ h hu.tail (fun x hx => hle x (List.mem_cons_of_mem _ hx))
        rw [this, he]
        simp only [decide_eq_true_eq]
        split <;> omega
      · cases h
    · rename_i he
      cases hr : widenGo s ⟨placeR p.f0 s, p.f1⟩ t with
      | none => rw [hr] at h; cases h
      | some r' =>
        rw [hr] at h
        cases h
        have := ih _ _ hr hu.tail hm
        rw [lookPr_cons, this]
        simp only [decide_eq_true_eq]
        by_cases hq : cur.f0 = q
        · rw [if_pos hq, if_pos hq, if_neg (by omega), sumIf_none _ t (fun x hx => by have := hm x hx; simp; omega)]
          omega
        · rw [if_neg hq, if_neg hq]
          omega
theorem widenW_look {s : Int} {l r : List Pr} (h : widenW s l = some r) (hu : Ups (fun p : Pr => p.f0) l) (q : Int) : lookPr r q = sumAt s q l := by
  cases l with
  | nil => cases h; rfl
  | cons p t =>
    have := widenGo_look s q t ⟨placeR p.f0 s, p.f1⟩ r h hu.tail (fun x hx => place_mono (Int.le_of_lt (hu.head x hx)))
    rw [this]
    unfold sumAt
    rw [sumIf]
    simp only [decide_eq_true_eq]
theorem lessI_wide {s : Int} {a b p q : List Pr} (ha : RowOK a) (hb : RowOK b) (hp : widenW s a = some p) (hq : widenW s b = some q) (h : (lessI a b).2 = false) : (lessI (some0 p) (some0 q)).2 = false := by
  obtain ⟨rp, _, _, _⟩ := widenW_ok ha hp
  obtain ⟨rq, _, _, _⟩ := widenW_ok hb hq
  rw [lessI_left (some0_ok rq).cnt, lessI_right rq.ups]
  rw [lessI_none] at h ⊢
  intro x hx
  have e := look_mem (val := fun q : Pr => q.f1) rp.ups hx
  have e1 := widenW_look hp ha.ups x.f0
  have e2 := widenW_look hq hb.ups x.f0
  unfold lookPr at e1
  rw [e] at e1
  rw [e2, e1]
  exact sumIf_mono _ _ a b (Nat.le_refl _) ha.ups hb.ups (fun p hp => (ha.cnt p hp).2.1) (fun p hp => (hb.cnt p hp).2.1) h
end Go.Proofs.Ytgkplhdcafbfbaa.P
namespace Go.Proofs.Ytgkplhdcafbfbaa.P
open Go.RowKit Go.Shelf Go.Proofs.YtgkplhdcafbfbaaW.PrintWords Go.Proofs.YtgkplhdcafbfbaaW.PrintLast Go.Proofs.YtgkplhdcafbfbaaW.PrintMore
set_option maxHeartbeats 4000000 in
set_option maxRecDepth 100000 in
theorem pairs_f (h : Hi) (hw : wfH h) (side : Int) (w : World) (v : Value) (hv : HI w v h) : Calls Try.prog 26 #[v, .int .i64 side] w fun e w' =>
    ∃ v0, e = .returned (.tuple #[v0, .int .i64 (pairsR h side).2]) ∧ FI kPr w.heap.size w' v0 (pairsR h side).1 ∧ Below w.heap.size w w' := by
  have hu := Try.underlying30
  obtain ⟨A5, c5, A6, c6, A7, c7, A8, c8, e, -⟩ := hv.open_
  subst e
  have HV := Aside0.mk hv
  have HW := Aside0.mk hw
  clear hv hw
  unfold pairsR
  by_cases c0 : side = 0
  · subst c0
    rw [if_pos rfl]
    go_enter Try.func26, Try.ntmps26
    go_wp2_with (go_at_call 53; (with_reducible refine (open_f h HW.out _ _ (HV.out.below (below_alloc (Below.refl _ _) _))).mono ?_); rintro e w1 ⟨v0, v1, rfl, h0, h1, hb⟩; have HO := Aside0.mk h0; have HB := Aside0.mk (below_then (below_alloc (Below.refl w.heap.size w) _) (by simp) hb); clear h0 h1 hb)
    go_ret2
    exact ⟨_, rfl, HO.out.lower (by simp), HB.out⟩
  · rw [if_neg c0]
    have c0a : (side == 0) = false := beq_eq_false_iff_ne.2 c0
    have c0b : (side != 0) = true := bne_iff_ne.2 c0
    by_cases c1 : side = 1
    · subst c1
      rw [if_pos rfl]
      clear c0
      go_enter Try.func26, Try.ntmps26
      go_wp2_with (go_at_call 53; (with_reducible refine (open_f h HW.out _ _ (HV.out.below (below_alloc (Below.refl _ _) _))).mono ?_); rintro e w1 ⟨v0, v1, rfl, h0, h1, hb⟩; have HO := Aside0.mk h1; have HB := Aside0.mk (below_then (below_alloc (Below.refl w.heap.size w) _) (by simp) hb); clear h0 h1 hb)
      go_ret2
      exact ⟨_, rfl, HO.out.lower (by simp), HB.out⟩
    · rw [if_neg c1]
      have c1a : (side == 1) = false := beq_eq_false_iff_ne.2 c1
      have c1b : (side != 1) = true := bne_iff_ne.2 c1
      clear c0 c1
      go_enter Try.func26, Try.ntmps26
      go_wp2
      go_ret2
      exact ⟨_, rfl, fun w _ => SI.nil _ w, below_alloc (Below.refl _ _) _⟩
set_option maxHeartbeats 8000000 in
set_option maxRecDepth 100000 in
theorem sidesI_c (h : Hi) (hw : wfH h) (w : World) (v : Value) (hv : HI w v h) : Calls Try.prog 69 #[v, .func (.func 26) #[] #[]] w fun e w' =>
    ∃ v0 v1, e = .returned (.tuple #[.agg #[v0, v1], .int .i64 (checkR h)]) ∧ SI kPr w' v0 (openR h).1 ∧ SI kPr w' v1 (openR h).2.1 ∧ Below w.heap.size w w' := by
  have hu := Try.underlying30
  have p0 := pairs_f h hw 0
  have p1 := pairs_f h hw 1
  rw [show pairsR h 0 = ((openR h).1, checkR h) from rfl] at p0
  rw [show pairsR h 1 = ((openR h).2.1, checkR h) from rfl] at p1
  have hwr := @openR_wrong h
  obtain ⟨A5, c5, A6, c6, A7, c7, A8, c8, e, -⟩ := hv.open_
  subst e
  generalize (openR h).1 = p at *
  generalize (openR h).2.1 = n at *
  generalize checkR h = r at *
  have HV := Aside0.mk hv
  have P0 := Aside0.mk p0
  clear hv hw p0
  by_cases c : r = 0
  rotate_left
  · obtain ⟨hp, hn⟩ := hwr c
    subst hp; subst hn
    have d : (r == 0) = false := beq_eq_false_iff_ne.2 c
    have d2 : (r != 0) = true := bne_iff_ne.2 c
    clear hwr c p1
    go_enter Try.func69, Try.ntmps69
    go_wp2_with (go_at_call 26; (with_reducible refine (P0.out _ _ (HV.out.below (below_alloc (below_alloc (below_alloc (Below.refl w.heap.size w) (.cells #[.int .i64 h.f0, .int .u64 h.f1, .int .u64 h.f2, .int .u64 h.f3, .int .u64 h.f4, .slice A5 h.f5.length c5, .slice A6 h.f6.length c6, .slice A7 h.f7.length c7, .slice A8 h.f8.length c8] 30)) (.cells #[.slice none 0 0, .slice none 0 0] 128)) (.cells #[.slice none 0 0, .slice none 0 0] 128)))).mono ?_); rintro e w1 ⟨v0, rfl, h0, hb⟩; obtain ⟨B0, d0, rfl⟩ := h0.slice; have F0 := Aside0.mk (show FI kPr (w.heap.size + 1 + 1 + 1) w1 (.slice B0 0 d0) ([] : List Pr) by simpa using h0); have HB1 := Aside0.mk (below_then (below_alloc (below_alloc (below_alloc (Below.refl w.heap.size w) (.cells #[.int .i64 h.f0, .int .u64 h.f1, .int .u64 h.f2, .int .u64 h.f3, .int .u64 h.f4, .slice A5 h.f5.length c5, .slice A6 h.f6.length c6, .slice A7 h.f7.length c7, .slice A8 h.f8.length c8] 30)) (.cells #[.slice none 0 0, .slice none 0 0] 128)) (.cells #[.slice none 0 0, .slice none 0 0] 128)) (by simp; omega) hb); have HX1 := Aside0.mk (blk_below (blk_alloc (blk_alloc (blk_new w (.cells #[.int .i64 h.f0, .int .u64 h.f1, .int .u64 h.f2, .int .u64 h.f3, .int .u64 h.f4, .slice A5 h.f5.length c5, .slice A6 h.f6.length c6, .slice A7 h.f7.length c7, .slice A8 h.f8.length c8] 30)) (.cells #[.slice none 0 0, .slice none 0 0] 128)) (.cells #[.slice none 0 0, .slice none 0 0] 128)) hb); have HY1 := Aside0.mk (show w1.heap[w.heap.size + 1]? = some (.cells #[.slice none 0 0, .slice none 0 0] 128 (0, 0)) from blk_below (blk_alloc (show ((w.alloc (.cells #[.int .i64 h.f0, .int .u64 h.f1, .int .u64 h.f2, .int .u64 h.f3, .int .u64 h.f4, .slice A5 h.f5.length c5, .slice A6 h.f6.length c6, .slice A7 h.f7.length c7, .slice A8 h.f8.length c8] 30)).alloc (.cells #[.slice none 0 0, .slice none 0 0] 128)).heap[w.heap.size + 1]? = _ by simpa using blk_new (w.alloc (.cells #[.int .i64 h.f0, .int .u64 h.f1, .int .u64 h.f2, .int .u64 h.f3, .int .u64 h.f4, .slice A5 h.f5.length c5, .slice A6 h.f6.length c6, .slice A7 h.f7.length c7, .slice A8 h.f8.length c8] 30)) (.cells #[.slice none 0 0, .slice none 0 0] 128)) (.cells #[.slice none 0 0, .slice none 0 0] 128)) hb); have HZ1 := Aside0.mk (show w1.heap[w.heap.size + 1 + 1]? = some (.cells #[.slice none 0 0, .slice none 0 0] 128 (0, 0)) from blk_below (show (((w.alloc (.cells #[.int .i64 h.f0, .int .u64 h.f1, .int .u64 h.f2, .int .u64 h.f3, .int .u64 h.f4, .slice A5 h.f5.length c5, .slice A6 h.f6.length c6, .slice A7 h.f7.length c7, .slice A8 h.f8.length c8] 30)).alloc (.cells #[.slice none 0 0, .slice none 0 0] 128)).alloc (.cells #[.slice none 0 0, .slice none 0 0] 128)).heap[w.heap.size + 1 + 1]? = _ by simpa using blk_new ((w.alloc (.cells #[.int .i64 h.f0, .int .u64 h.f1, .int .u64 h.f2, .int .u64 h.f3, .int .u64 h.f4, .slice A5 h.f5.length c5, .slice A6 h.f6.length c6, .slice A7 h.f7.length c7, .slice A8 h.f8.length c8] 30)).alloc (.cells #[.slice none 0 0, .slice none 0 0] 128)) (.cells #[.slice none 0 0, .slice none 0 0] 128)) hb); have hfx := fun i => blk_cell HX1.out i; have hfy := fun i => blk_cell HY1.out i; have hzy := fun i => blk_frozen HY1.out i; have hfz := fun i => blk_cell HZ1.out i; have hzz := fun i => blk_frozen HZ1.out i; clear h0 hb)
    refine bodyPost_ret (results_ct rfl _ _ (w.heap.size + 1) 128 #[.slice B0 0 d0, .slice none 0 0] (0, 0) _ rfl (blk_put (blk_put (blk_far HY1.out (by show w.heap.size + 1 ≠ w.heap.size + 1 + 1; omega) _) 0 _ rfl) 1 _ rfl) Try.underlying128 rfl (by kernel_rfl)) rfl ?_
    exact ⟨_, _, rfl, F0.out.at_ (((KA.set _ (by omega) _).trans (KA.set _ (by omega) _)).trans (KA.set _ (by omega) _)), SI.nil _ _, ((HB1.out.setCell (p := ⟨w.heap.size + 1 + 1, 0, none⟩) (by show w.heap.size ≤ w.heap.size + 1 + 1; omega) _).setCell (p := ⟨w.heap.size + 1, 0, none⟩) (by show w.heap.size ≤ w.heap.size + 1; omega) _).setCell (p := ⟨w.heap.size + 1, 1, none⟩) (by show w.heap.size ≤ w.heap.size + 1; omega) _⟩
  subst c
  have P1 := Aside0.mk p1
  clear hwr p1
  go_enter Try.func69, Try.ntmps69
  go_wp2_with (first | (go_at_call 26; (with_reducible refine (P0.out _ _ (HV.out.below (below_alloc (below_alloc (below_alloc (Below.refl w.heap.size w) (.cells #[.int .i64 h.f0, .int .u64 h.f1, .int .u64 h.f2, .int .u64 h.f3, .int .u64 h.f4, .slice A5 h.f5.length c5, .slice A6 h.f6.length c6, .slice A7 h.f7.length c7, .slice A8 h.f8.length c8] 30)) (.cells #[.slice none 0 0, .slice none 0 0] 128)) (.cells #[.slice none 0 0, .slice none 0 0] 128)))).mono ?_); rintro e w1 ⟨v0, rfl, h0, hb⟩; obtain ⟨B0, d0, rfl⟩ := h0.slice; have F0 := Aside0.mk (show FI kPr (w.heap.size + 1 + 1 + 1) w1 (.slice B0 p.length d0) p by simpa using h0); have HB1 := Aside0.mk (below_then (below_alloc (below_alloc (below_alloc (Below.refl w.heap.size w) (.cells #[.int .i64 h.f0, .int .u64 h.f1, .int .u64 h.f2, .int .u64 h.f3, .int .u64 h.f4, .slice A5 h.f5.length c5, .slice A6 h.f6.length c6, .slice A7 h.f7.length c7, .slice A8 h.f8.length c8] 30)) (.cells #[.slice none 0 0, .slice none 0 0] 128)) (.cells #[.slice none 0 0, .slice none 0 0] 128)) (by simp; omega) hb); have HX1 := Aside0.mk (blk_below (blk_alloc (blk_alloc (blk_new w (.cells #[.int .i64 h.f0, .int .u64 h.f1, .int .u64 h.f2, .int .u64 h.f3, .int .u64 h.f4, .slice A5 h.f5.length c5, .slice A6 h.f6.length c6, .slice A7 h.f7.length c7, .slice A8 h.f8.length c8] 30)) (.cells #[.slice none 0 0, .slice none 0 0] 128)) (.cells #[.slice none 0 0, .slice none 0 0] 128)) hb); have HY1 := Aside0.mk (show w1.heap[w.heap.size + 1]? = some (.cells #[.slice none 0 0, .slice none 0 0] 128 (0, 0)) from blk_below (blk_alloc (show ((w.alloc (.cells #[.int .i64 h.f0, .int .u64 h.f1, .int .u64 h.f2, .int .u64 h.f3, .int .u64 h.f4, .slice A5 h.f5.length c5, .slice A6 h.f6.length c6, .slice A7 h.f7.length c7, .slice A8 h.f8.length c8] 30)).alloc (.cells #[.slice none 0 0, .slice none 0 0] 128)).heap[w.heap.size + 1]? = _ by simpa using blk_new (w.alloc (.cells #[.int .i64 h.f0, .int .u64 h.f1, .int .u64 h.f2, .int .u64 h.f3, .int .u64 h.f4, .slice A5 h.f5.length c5, .slice A6 h.f6.length c6, .slice A7 h.f7.length c7, .slice A8 h.f8.length c8] 30)) (.cells #[.slice none 0 0, .slice none 0 0] 128)) (.cells #[.slice none 0 0, .slice none 0 0] 128)) hb); have HZ1 := Aside0.mk (show w1.heap[w.heap.size + 1 + 1]? = some (.cells #[.slice none 0 0, .slice none 0 0] 128 (0, 0)) from blk_below (show (((w.alloc (.cells #[.int .i64 h.f0, .int .u64 h.f1, .int .u64 h.f2, .int .u64 h.f3, .int .u64 h.f4, .slice A5 h.f5.length c5, .slice A6 h.f6.length c6, .slice A7 h.f7.length c7, .slice A8 h.f8.length c8] 30)).alloc (.cells #[.slice none 0 0, .slice none 0 0] 128)).alloc (.cells #[.slice none 0 0, .slice none 0 0] 128)).heap[w.heap.size + 1 + 1]? = _ by simpa using blk_new ((w.alloc (.cells #[.int .i64 h.f0, .int .u64 h.f1, .int .u64 h.f2, .int .u64 h.f3, .int .u64 h.f4, .slice A5 h.f5.length c5, .slice A6 h.f6.length c6, .slice A7 h.f7.length c7, .slice A8 h.f8.length c8] 30)).alloc (.cells #[.slice none 0 0, .slice none 0 0] 128)) (.cells #[.slice none 0 0, .slice none 0 0] 128)) hb); have hfx := fun i => blk_cell HX1.out i; have hfy := fun i => blk_cell HY1.out i; have hzy := fun i => blk_frozen HY1.out i; have hfz := fun i => blk_cell HZ1.out i; have hzz := fun i => blk_frozen HZ1.out i; clear h0 hb) | (go_at_call 26; ((with_reducible refine (P1.out _ _ (HV.out.below (HB1.out.setCell (p := ⟨w.heap.size + 1 + 1, 0, none⟩) (by show w.heap.size ≤ w.heap.size + 1 + 1; omega) _))).mono ?_); rintro e w2 ⟨v1, rfl, h1, hb⟩; obtain ⟨B1, d1, rfl⟩ := h1.slice; have hs3 := Nat.succ_le_of_lt (blk_lt HZ1.out); have F1 := Aside0.mk (show FI kPr (w.heap.size + 1 + 1 + 1) w2 (.slice B1 n.length d1) n from FI.lower h1 (by simpa [World.setCell] using hs3)); have K2 := Aside0.mk (show KA (w.heap.size + 1 + 1 + 1) w1 w2 from (KA.set _ (by omega) _).trans (KA.below hb)); have HB2 := Aside0.mk (below_then (HB1.out.setCell (p := ⟨w.heap.size + 1 + 1, 0, none⟩) (by show w.heap.size ≤ w.heap.size + 1 + 1; omega) _) (by have := HB1.out.size; simpa [World.setCell] using this) hb); have HY2 := Aside0.mk (blk_below (blk_far HY1.out (by show w.heap.size + 1 ≠ w.heap.size + 1 + 1; omega) _) hb); have HZ2 := Aside0.mk (blk_below (blk_put HZ1.out 0 _ rfl) hb); clear hfx hfy hzy hfz hzz; have hfy := fun i => blk_cell HY2.out i; have hzy := fun i => blk_frozen HY2.out i; have hfz := fun i => blk_cell HZ2.out i; have hzz := fun i => blk_frozen HZ2.out i; clear h1 hb hs3)))
  refine bodyPost_ret (results_ct rfl _ _ (w.heap.size + 1) 128 #[.slice B0 p.length d0, .slice B1 n.length d1] (0, 0) _ rfl (blk_put (blk_put (blk_far HY2.out (by show w.heap.size + 1 ≠ w.heap.size + 1 + 1; omega) _) 0 _ rfl) 1 _ rfl) Try.underlying128 rfl (by kernel_rfl)) rfl ?_
  exact ⟨_, _, rfl, F0.out.at_ (K2.out.trans (((KA.set _ (by omega) _).trans (KA.set _ (by omega) _)).trans (KA.set _ (by omega) _))), F1.out.at_ (((KA.set _ (by omega) _).trans (KA.set _ (by omega) _)).trans (KA.set _ (by omega) _)), ((HB2.out.setCell (p := ⟨w.heap.size + 1 + 1, 1, none⟩) (by show w.heap.size ≤ w.heap.size + 1 + 1; omega) _).setCell (p := ⟨w.heap.size + 1, 0, none⟩) (by show w.heap.size ≤ w.heap.size + 1; omega) _).setCell (p := ⟨w.heap.size + 1, 1, none⟩) (by show w.heap.size ≤ w.heap.size + 1; omega) _⟩
end Go.Proofs.Ytgkplhdcafbfbaa.P
namespace Go.Proofs.Ytgkplhdcafbfbaa.P
open Go.RowKit Go.Shelf Go.Proofs.YtgkplhdcafbfbaaW.PrintWords Go.Proofs.YtgkplhdcafbfbaaW.PrintLast Go.Proofs.YtgkplhdcafbfbaaW.PrintMore
theorem heads_eq (s z ct zc t o c zz : Int) : reset_heads.f s z ct zc t o c zz = some (numsV s t z o ct c zc zz) := by
  unfold reset_heads.f numsV
  by_cases h1 : s = t <;> by_cases h2 : z = o <;> by_cases h3 : c < ct <;> by_cases h4 : zz < zc <;> simp [h1, h2, h3, h4]
theorem SI.slc {α : Type} {d : Kd α} {w : World} {v : Value} {l : List α} (h : SI d w v l) : ∃ A c, v = .slice A l.length c := by
  obtain ⟨A, c, e, -⟩ := h
  exact ⟨A, c, e⟩
theorem lessI_c (a b : List Pr) (ha : Ups (fun q : Pr => q.f0) a) (hb : Ups (fun q : Pr => q.f0) b) (hm : a.length ≤ 4096) (w : World) (u v : Value) (hu : SI kPr w u a) (hv : SI kPr w v b) : Calls Try.prog 106 #[u, v] w fun e w' => e = .returned (.tuple #[.int .i64 (lessI a b).1, .bool (lessI a b).2]) ∧ Below w.heap.size w w' := by
  obtain ⟨A, c, rfl, hc, hr⟩ := hu
  obtain ⟨B, d, rfl, hd, hs⟩ := hv
  exact reset_less_int64.calls (a.length * 5 + b.length + 2) A c a (fun k => k < w.heap.size) B d b (lessI a b).1 (lessI a b).2 w hr hc ⟨_, _, rfl, hd, Kd.C_F (show Kd.Heap k62 from Kd.heap_iso _ (Kd.heap_pair (Kd.heap_int .i64) (Kd.heap_int .i64))) hs⟩ (lessI_eq a b ha hb (by omega) _ (by omega))
set_option maxHeartbeats 4000000 in
set_option maxRecDepth 100000 in
theorem verdictI_c (why : Int) (a0 a1 b0 b1 : List Pr) (l0 : ∀ w u v, SI kPr w u a0 → SI kPr w v b0 → Calls Try.prog 106 #[u, v] w fun e w' => e = .returned (.tuple #[.int .i64 (lessI a0 b0).1, .bool (lessI a0 b0).2]) ∧ Below w.heap.size w w')
    (l1 : ∀ w u v, SI kPr w u a1 → SI kPr w v b1 → Calls Try.prog 106 #[u, v] w fun e w' => e = .returned (.tuple #[.int .i64 (lessI a1 b1).1, .bool (lessI a1 b1).2]) ∧ Below w.heap.size w w')
    (w : World) (u0 u1 v0 v1 : Value) (hu0 : SI kPr w u0 a0) (hu1 : SI kPr w u1 a1) (hv0 : SI kPr w v0 b0) (hv1 : SI kPr w v1 b1) : Calls Try.prog 70 #[.int .i64 why, .agg #[u0, u1], .agg #[v0, v1]] w fun e w' =>
    e = .returned (.agg #[.int .i64 (verdR why (lessI a0 b0) (lessI a1 b1)).1, .int .i64 (verdR why (lessI a0 b0) (lessI a1 b1)).2]) ∧ Below w.heap.size w w' := by
  have hua := Try.underlying128
  have huv := Try.underlying70
  generalize lessI a0 b0 = r0 at *
  generalize lessI a1 b1 = r1 at *
  obtain ⟨p, ok⟩ := r0
  obtain ⟨q, ok1⟩ := r1
  simp only at l0 l1
  have L0 := Aside0.mk l0
  have L1 := Aside0.mk l1
  clear l0 l1
  have hu0' := hu0; have hu1' := hu1; have hv0' := hv0; have hv1' := hv1
  obtain ⟨A0, c0, e0, -⟩ := hu0'; subst e0
  obtain ⟨A1, c1, e1, -⟩ := hu1'; subst e1
  obtain ⟨D0, d0, e2, -⟩ := hv0'; subst e2
  obtain ⟨D1, d1, e3, -⟩ := hv1'; subst e3
  have B := Aside0.mk (below_alloc (below_alloc (below_alloc (Below.refl w.heap.size w) (.cells #[.slice A0 a0.length c0, .slice A1 a1.length c1] 128)) (.cells #[.slice D0 b0.length d0, .slice D1 b1.length d1] 128)) (.cells #[.int .i64 0, .int .i64 0] 70))
  have X := Aside0.mk (((Blk.new w #[.slice A0 a0.length c0, .slice A1 a1.length c1] 128).alloc (.cells #[.slice D0 b0.length d0, .slice D1 b1.length d1] 128)).alloc (.cells #[.int .i64 0, .int .i64 0] 70))
  have Y := Aside0.mk ((Blk.at1 (w := w) (.cells #[.slice A0 a0.length c0, .slice A1 a1.length c1] 128) #[.slice D0 b0.length d0, .slice D1 b1.length d1] 128).alloc (.cells #[.int .i64 0, .int .i64 0] 70))
  have Z := Aside0.mk (show Blk (((w.alloc (.cells #[.slice A0 a0.length c0, .slice A1 a1.length c1] 128)).alloc (.cells #[.slice D0 b0.length d0, .slice D1 b1.length d1] 128)).alloc (.cells #[.int .i64 0, .int .i64 0] 70)) (w.heap.size + 1 + 1) #[.int .i64 0, .int .i64 0] 70 by have := Blk.new ((w.alloc (.cells #[.slice A0 a0.length c0, .slice A1 a1.length c1] 128)).alloc (.cells #[.slice D0 b0.length d0, .slice D1 b1.length d1] 128)) #[.int .i64 0, .int .i64 0] 70; simpa using this)
  have hx := fun i => X.out.cell i
  have hy := fun i => Y.out.cell i
  have hz := fun i => Z.out.cell i
  have zz := fun i => blk_frozen Z.out i
  have SA0 := Aside0.mk (hu0.below B.out)
  have SA1 := Aside0.mk (hu1.below B.out)
  have SB0 := Aside0.mk (hv0.below B.out)
  have SB1 := Aside0.mk (hv1.below B.out)
  clear hu0 hu1 hv0 hv1
  unfold verdR
  by_cases cw : why = 0
  rotate_left
  · rw [if_pos cw]
    have cw1 : (why != 0) = true := bne_iff_ne.2 cw
    clear cw
    go_enter Try.func70, Try.ntmps70
    go_wp2
    refine bodyPost_ret (results_cell_row rfl _ _ (w.heap.size + 1 + 1) 70 #[.int .i64 why, .int .i64 0] (0, 0) _ rfl (show Blk _ _ _ _ by have := Blk.new ((w.alloc (.cells #[.slice A0 a0.length c0, .slice A1 a1.length c1] 128)).alloc (.cells #[.slice D0 b0.length d0, .slice D1 b1.length d1] 128)) #[.int .i64 why, .int .i64 0] 70; simpa using this) Try.underlying70 rfl (by kernel_rfl)) rfl ?_
    exact ⟨rfl, below_alloc (below_alloc (below_alloc (Below.refl _ _) _) _) _⟩
  rw [if_neg (by simp [cw])]
  have cw1 : (why != 0) = false := by rw [cw]; rfl
  subst cw
  cases ok with
  | true =>
    simp only [if_true]
    go_enter Try.func70, Try.ntmps70
    go_wp2_with (first | (go_at_call 106; (with_reducible refine (L0.out _ _ _ SA0.out SB0.out).mono ?_); rintro e W1 ⟨rfl, hb⟩; replace B := Aside0.mk (below_then B.out B.out.size hb); replace SA0 := Aside0.mk (SA0.out.below hb); replace SA1 := Aside0.mk (SA1.out.below hb); replace SB0 := Aside0.mk (SB0.out.below hb); replace SB1 := Aside0.mk (SB1.out.below hb); replace X := Aside0.mk (X.out.below hb); replace hx := fun i => X.out.cell i; replace Y := Aside0.mk (Y.out.below hb); replace hy := fun i => Y.out.cell i; replace Z := Aside0.mk (Z.out.below hb); replace hz := fun i => Z.out.cell i; replace zz := fun i => blk_frozen Z.out i; clear  hb))
    refine bodyPost_ret (results_cell_row rfl _ _ (w.heap.size + 1 + 1) 70 #[_, _] (0, 0) _ rfl (blk_put (blk_put Z.out 0 _ rfl) 1 _ rfl) Try.underlying70 rfl (by kernel_rfl)) rfl ?_
    exact ⟨rfl, belowS B.out.size B.out (by omega)⟩
  | false =>
    cases ok1 with
    | true =>
      simp only [if_true, Bool.false_eq_true, if_false]
      go_enter Try.func70, Try.ntmps70
      go_wp2_with (first | (go_at_call 106; (with_reducible refine (L0.out _ _ _ SA0.out SB0.out).mono ?_); rintro e W1 ⟨rfl, hb⟩; replace B := Aside0.mk (below_then B.out B.out.size hb); replace SA0 := Aside0.mk (SA0.out.below hb); replace SA1 := Aside0.mk (SA1.out.below hb); replace SB0 := Aside0.mk (SB0.out.below hb); replace SB1 := Aside0.mk (SB1.out.below hb); replace X := Aside0.mk (X.out.below hb); replace hx := fun i => X.out.cell i; replace Y := Aside0.mk (Y.out.below hb); replace hy := fun i => Y.out.cell i; replace Z := Aside0.mk (Z.out.below hb); replace hz := fun i => Z.out.cell i; replace zz := fun i => blk_frozen Z.out i; clear  hb) | (go_at_call 106; (with_reducible refine (L1.out _ _ _ SA1.out SB1.out).mono ?_); rintro e W2 ⟨rfl, hb⟩; replace B := Aside0.mk (below_then B.out B.out.size hb); replace SA0 := Aside0.mk (SA0.out.below hb); replace SA1 := Aside0.mk (SA1.out.below hb); replace SB0 := Aside0.mk (SB0.out.below hb); replace SB1 := Aside0.mk (SB1.out.below hb); replace X := Aside0.mk (X.out.below hb); replace hx := fun i => X.out.cell i; replace Y := Aside0.mk (Y.out.below hb); replace hy := fun i => Y.out.cell i; replace Z := Aside0.mk (Z.out.below hb); replace hz := fun i => Z.out.cell i; replace zz := fun i => blk_frozen Z.out i; clear  hb))
      refine bodyPost_ret (results_cell_row rfl _ _ (w.heap.size + 1 + 1) 70 #[_, _] (0, 0) _ rfl (blk_put (blk_put Z.out 0 _ rfl) 1 _ rfl) Try.underlying70 rfl (by kernel_rfl)) rfl ?_
      exact ⟨rfl, belowS B.out.size B.out (by omega)⟩
    | false =>
      simp only [Bool.false_eq_true, if_false]
      go_enter Try.func70, Try.ntmps70
      go_wp2_with (first | (go_at_call 106; (with_reducible refine (L0.out _ _ _ SA0.out SB0.out).mono ?_); rintro e W1 ⟨rfl, hb⟩; replace B := Aside0.mk (below_then B.out B.out.size hb); replace SA0 := Aside0.mk (SA0.out.below hb); replace SA1 := Aside0.mk (SA1.out.below hb); replace SB0 := Aside0.mk (SB0.out.below hb); replace SB1 := Aside0.mk (SB1.out.below hb); replace X := Aside0.mk (X.out.below hb); replace hx := fun i => X.out.cell i; replace Y := Aside0.mk (Y.out.below hb); replace hy := fun i => Y.out.cell i; replace Z := Aside0.mk (Z.out.below hb); replace hz := fun i => Z.out.cell i; replace zz := fun i => blk_frozen Z.out i; clear  hb) | (go_at_call 106; (with_reducible refine (L1.out _ _ _ SA1.out SB1.out).mono ?_); rintro e W2 ⟨rfl, hb⟩; replace B := Aside0.mk (below_then B.out B.out.size hb); replace SA0 := Aside0.mk (SA0.out.below hb); replace SA1 := Aside0.mk (SA1.out.below hb); replace SB0 := Aside0.mk (SB0.out.below hb); replace SB1 := Aside0.mk (SB1.out.below hb); replace X := Aside0.mk (X.out.below hb); replace hx := fun i => X.out.cell i; replace Y := Aside0.mk (Y.out.below hb); replace hy := fun i => Y.out.cell i; replace Z := Aside0.mk (Z.out.below hb); replace hz := fun i => Z.out.cell i; replace zz := fun i => blk_frozen Z.out i; clear  hb))
      refine bodyPost_ret (results_cell_row rfl _ _ (w.heap.size + 1 + 1) 70 #[_, _] (0, 0) _ rfl (blk_put (blk_put Z.out 0 _ rfl) 1 _ rfl) Try.underlying70 rfl (by kernel_rfl)) rfl ?_
      exact ⟨rfl, belowS B.out.size B.out (by omega)⟩
theorem headsI_c (a b : Hi) (w : World) : Calls Try.prog 71 #[.agg #[.int .i64 a.f0, .int .u64 a.f1, .int .u64 a.f3, .int .u64 a.f2], .agg #[.int .i64 b.f0, .int .u64 b.f1, .int .u64 b.f3, .int .u64 b.f2]] w fun e w' => e = .returned (.int .i64 (headsR a b)) ∧ Below w.heap.size w w' :=
  reset_heads.calls _ _ _ _ _ _ _ _ _ w (heads_eq _ _ _ _ _ _ _ _)
set_option maxHeartbeats 16000000 in
set_option maxRecDepth 100000 in
theorem resetI_c (a b : Hi) (hwa : wfH a) (hwb : wfH b) (w : World) (u v : Value) (hu : HI w u a) (hv : HI w v b) : Calls Try.prog 31 #[u, v] w fun e w' =>
    e = .returned (.tuple #[.agg #[.int .i64 (intsR a b).1.1, .int .i64 (intsR a b).1.2], .int .i64 (intsR a b).2]) ∧ Below w.heap.size w w' := by
  have hud := Try.underlying30
  have hua := Try.underlying128
  have huv := Try.underlying70
  have ka := sidesI_c a hwa
  have kb := sidesI_c b hwb
  have hd := headsI_c a b
  have ra := openR_row hwa
  have rb := openR_row hwb
  have vd := verdictI_c (headsR a b) (openR a).1 (openR a).2.1 (openR b).1 (openR b).2.1 (lessI_c _ _ ra.1.ups rb.1.ups ra.1.len) (lessI_c _ _ ra.2.ups rb.2.ups ra.2.len)
  unfold intsR intsV
  generalize verdR (headsR a b) (lessI (openR a).1 (openR b).1) (lessI (openR a).2.1 (openR b).2.1) = r at *
  obtain ⟨r1, r2⟩ := r
  generalize headsR a b = hd0 at *
  generalize (openR a).1 = x0 at *
  generalize (openR a).2.1 = x1 at *
  generalize (openR b).1 = y0 at *
  generalize (openR b).2.1 = y1 at *
  generalize checkR a = ea at *
  generalize checkR b = eb at *
  have KA := Aside0.mk ka
  have KB := Aside0.mk kb
  have HD := Aside0.mk hd
  have VD := Aside0.mk vd
  clear ka kb hd vd ra rb hwa hwb
  obtain ⟨A5a, c5a, A6a, c6a, A7a, c7a, A8a, c8a, e, -⟩ := hu.open_
  subst e
  obtain ⟨A5b, c5b, A6b, c6b, A7b, c7b, A8b, c8b, e, -⟩ := hv.open_
  subst e
  have B := Aside0.mk (below_alloc (below_alloc (below_alloc (Below.refl w.heap.size w) (.cells #[.int .i64 a.f0, .int .u64 a.f1, .int .u64 a.f2, .int .u64 a.f3, .int .u64 a.f4, .slice A5a a.f5.length c5a, .slice A6a a.f6.length c6a, .slice A7a a.f7.length c7a, .slice A8a a.f8.length c8a] 30)) (.cells #[.int .i64 b.f0, .int .u64 b.f1, .int .u64 b.f2, .int .u64 b.f3, .int .u64 b.f4, .slice A5b b.f5.length c5b, .slice A6b b.f6.length c6b, .slice A7b b.f7.length c7b, .slice A8b b.f8.length c8b] 30)) (.cells #[.int .i64 0, .int .i64 0] 70))
  have X := Aside0.mk (((Blk.new w #[.int .i64 a.f0, .int .u64 a.f1, .int .u64 a.f2, .int .u64 a.f3, .int .u64 a.f4, .slice A5a a.f5.length c5a, .slice A6a a.f6.length c6a, .slice A7a a.f7.length c7a, .slice A8a a.f8.length c8a] 30).alloc (.cells #[.int .i64 b.f0, .int .u64 b.f1, .int .u64 b.f2, .int .u64 b.f3, .int .u64 b.f4, .slice A5b b.f5.length c5b, .slice A6b b.f6.length c6b, .slice A7b b.f7.length c7b, .slice A8b b.f8.length c8b] 30)).alloc (.cells #[.int .i64 0, .int .i64 0] 70))
  have Y := Aside0.mk ((Blk.at1 (w := w) (.cells #[.int .i64 a.f0, .int .u64 a.f1, .int .u64 a.f2, .int .u64 a.f3, .int .u64 a.f4, .slice A5a a.f5.length c5a, .slice A6a a.f6.length c6a, .slice A7a a.f7.length c7a, .slice A8a a.f8.length c8a] 30) #[.int .i64 b.f0, .int .u64 b.f1, .int .u64 b.f2, .int .u64 b.f3, .int .u64 b.f4, .slice A5b b.f5.length c5b, .slice A6b b.f6.length c6b, .slice A7b b.f7.length c7b, .slice A8b b.f8.length c8b] 30).alloc (.cells #[.int .i64 0, .int .i64 0] 70))
  have Z := Aside0.mk (show Blk (((w.alloc (.cells #[.int .i64 a.f0, .int .u64 a.f1, .int .u64 a.f2, .int .u64 a.f3, .int .u64 a.f4, .slice A5a a.f5.length c5a, .slice A6a a.f6.length c6a, .slice A7a a.f7.length c7a, .slice A8a a.f8.length c8a] 30)).alloc (.cells #[.int .i64 b.f0, .int .u64 b.f1, .int .u64 b.f2, .int .u64 b.f3, .int .u64 b.f4, .slice A5b b.f5.length c5b, .slice A6b b.f6.length c6b, .slice A7b b.f7.length c7b, .slice A8b b.f8.length c8b] 30)).alloc (.cells #[.int .i64 0, .int .i64 0] 70)) (w.heap.size + 1 + 1) #[.int .i64 0, .int .i64 0] 70 by have := Blk.new ((w.alloc (.cells #[.int .i64 a.f0, .int .u64 a.f1, .int .u64 a.f2, .int .u64 a.f3, .int .u64 a.f4, .slice A5a a.f5.length c5a, .slice A6a a.f6.length c6a, .slice A7a a.f7.length c7a, .slice A8a a.f8.length c8a] 30)).alloc (.cells #[.int .i64 b.f0, .int .u64 b.f1, .int .u64 b.f2, .int .u64 b.f3, .int .u64 b.f4, .slice A5b b.f5.length c5b, .slice A6b b.f6.length c6b, .slice A7b b.f7.length c7b, .slice A8b b.f8.length c8b] 30)) #[.int .i64 0, .int .i64 0] 70; simpa using this)
  have hx := fun i => X.out.cell i
  have hy := fun i => Y.out.cell i
  have hz := fun i => Z.out.cell i
  have zz := fun i => blk_frozen Z.out i
  have HA := Aside0.mk (hu.below B.out)
  have HC := Aside0.mk (hv.below B.out)
  clear hu hv
  by_cases c1 : ea = 0
  rotate_left
  · rw [if_pos c1]
    have d1 : (ea != 0) = true := bne_iff_ne.2 c1
    clear c1
    go_enter Try.func31, Try.ntmps31
    go_wp2_with (first | (go_at_call 69; (with_reducible refine (KA.out _ _ HA.out).mono ?_); rintro e W1 ⟨v0, v1, rfl, h0, h1, hb⟩; replace B := Aside0.mk (below_then B.out B.out.size hb); replace HA := Aside0.mk (HA.out.below hb); replace HC := Aside0.mk (HC.out.below hb); replace X := Aside0.mk (X.out.below hb); replace hx := fun i => X.out.cell i; replace Y := Aside0.mk (Y.out.below hb); replace hy := fun i => Y.out.cell i; replace Z := Aside0.mk (Z.out.below hb); replace hz := fun i => Z.out.cell i; replace zz := fun i => blk_frozen Z.out i; have SA0 := Aside0.mk h0; have SA1 := Aside0.mk h1; have e0' := SA0.out; have e1' := SA1.out; obtain ⟨P0, q0, e0⟩ := e0'.slc; subst e0; obtain ⟨P1, q1, e1⟩ := e1'.slc; subst e1; have hsz1 := blk_lt Z.out; have hxa := fun i => (X.out.alloc (.cells #[.slice P0 x0.length q0, .slice P1 x1.length q1] 128)).cell i; have hya := fun i => (Y.out.alloc (.cells #[.slice P0 x0.length q0, .slice P1 x1.length q1] 128)).cell i; have hza := fun i => (Z.out.alloc (.cells #[.slice P0 x0.length q0, .slice P1 x1.length q1] 128)).cell i; clear h0 h1 hb; have zza := fun i => blk_frozen (Z.out.alloc (.cells #[.slice P0 x0.length q0, .slice P1 x1.length q1] 128)) i))
    refine bodyPost_ret (results_ct rfl _ _ (w.heap.size + 1 + 1) 70 #[_, _] (0, 0) _ rfl (Blk.alloc (show Blk _ _ _ _ from blk_put (blk_put Z.out 0 _ rfl) 1 _ rfl) _) Try.underlying70 rfl (by kernel_rfl)) rfl ?_
    exact ⟨rfl, below_alloc (belowS B.out.size B.out (by omega)) _⟩
  subst c1
  rw [if_neg (by simp)]
  by_cases c2 : eb = 0
  rotate_left
  · rw [if_pos c2]
    have d2 : (eb != 0) = true := bne_iff_ne.2 c2
    clear c2
    go_enter Try.func31, Try.ntmps31
    go_wp2_with (first | (go_at_call 69; (with_reducible refine (KA.out _ _ HA.out).mono ?_); rintro e W1 ⟨v0, v1, rfl, h0, h1, hb⟩; replace B := Aside0.mk (below_then B.out B.out.size hb); replace HA := Aside0.mk (HA.out.below hb); replace HC := Aside0.mk (HC.out.below hb); replace X := Aside0.mk (X.out.below hb); replace hx := fun i => X.out.cell i; replace Y := Aside0.mk (Y.out.below hb); replace hy := fun i => Y.out.cell i; replace Z := Aside0.mk (Z.out.below hb); replace hz := fun i => Z.out.cell i; replace zz := fun i => blk_frozen Z.out i; have SA0 := Aside0.mk h0; have SA1 := Aside0.mk h1; have e0' := SA0.out; have e1' := SA1.out; obtain ⟨P0, q0, e0⟩ := e0'.slc; subst e0; obtain ⟨P1, q1, e1⟩ := e1'.slc; subst e1; have hsz1 := blk_lt Z.out; have hxa := fun i => (X.out.alloc (.cells #[.slice P0 x0.length q0, .slice P1 x1.length q1] 128)).cell i; have hya := fun i => (Y.out.alloc (.cells #[.slice P0 x0.length q0, .slice P1 x1.length q1] 128)).cell i; have hza := fun i => (Z.out.alloc (.cells #[.slice P0 x0.length q0, .slice P1 x1.length q1] 128)).cell i; clear h0 h1 hb))
    (try clear hxa hya hza)
    have hal := below_alloc (Below.refl W1.heap.size W1) (.cells #[.slice P0 x0.length q0, .slice P1 x1.length q1] 128)
    replace B := Aside0.mk (below_then B.out B.out.size hal)
    replace HA := Aside0.mk (HA.out.below hal)
    replace HC := Aside0.mk (HC.out.below hal)
    replace SA0 := Aside0.mk (SA0.out.below hal)
    replace SA1 := Aside0.mk (SA1.out.below hal)
    replace X := Aside0.mk (X.out.alloc (.cells #[.slice P0 x0.length q0, .slice P1 x1.length q1] 128)); replace hx := fun i => X.out.cell i
    replace Y := Aside0.mk (Y.out.alloc (.cells #[.slice P0 x0.length q0, .slice P1 x1.length q1] 128)); replace hy := fun i => Y.out.cell i
    replace Z := Aside0.mk (Z.out.alloc (.cells #[.slice P0 x0.length q0, .slice P1 x1.length q1] 128)); replace hz := fun i => Z.out.cell i
    have U := Aside0.mk (Blk.new W1 #[.slice P0 x0.length q0, .slice P1 x1.length q1] 128); have hu := fun i => U.out.cell i; clear hal
    go_wp2_with (first | (go_at_call 69; (with_reducible refine (KB.out _ _ HC.out).mono ?_); rintro e W2 ⟨v2, v3, rfl, h0, h1, hb⟩; replace B := Aside0.mk (below_then B.out B.out.size hb); replace HA := Aside0.mk (HA.out.below hb); replace HC := Aside0.mk (HC.out.below hb); replace SA0 := Aside0.mk (SA0.out.below hb); replace SA1 := Aside0.mk (SA1.out.below hb); replace X := Aside0.mk (X.out.below hb); replace hx := fun i => X.out.cell i; replace Y := Aside0.mk (Y.out.below hb); replace hy := fun i => Y.out.cell i; replace Z := Aside0.mk (Z.out.below hb); replace hz := fun i => Z.out.cell i; replace zz := fun i => blk_frozen Z.out i; replace U := Aside0.mk (U.out.below hb); replace hu := fun i => U.out.cell i; have SB0 := Aside0.mk h0; have SB1 := Aside0.mk h1; have e0' := SB0.out; have e1' := SB1.out; obtain ⟨P2, q2, e0⟩ := e0'.slc; subst e0; obtain ⟨P3, q3, e1⟩ := e1'.slc; subst e1; have hsz2 := blk_lt Z.out; have hxa := fun i => (X.out.alloc (.cells #[.slice P2 y0.length q2, .slice P3 y1.length q3] 128)).cell i; have hya := fun i => (Y.out.alloc (.cells #[.slice P2 y0.length q2, .slice P3 y1.length q3] 128)).cell i; have hza := fun i => (Z.out.alloc (.cells #[.slice P2 y0.length q2, .slice P3 y1.length q3] 128)).cell i; have hua := fun i => (U.out.alloc (.cells #[.slice P2 y0.length q2, .slice P3 y1.length q3] 128)).cell i; clear h0 h1 hb; have zza := fun i => blk_frozen (Z.out.alloc (.cells #[.slice P2 y0.length q2, .slice P3 y1.length q3] 128)) i))
    refine bodyPost_ret (results_ct rfl _ _ (w.heap.size + 1 + 1) 70 #[_, _] (0, 0) _ rfl (Blk.alloc (show Blk _ _ _ _ from blk_put (blk_put Z.out 0 _ rfl) 1 _ rfl) _) Try.underlying70 rfl (by kernel_rfl)) rfl ?_
    exact ⟨rfl, below_alloc (belowS B.out.size B.out (by omega)) _⟩
  subst c2
  rw [if_neg (by simp)]
  go_enter Try.func31, Try.ntmps31
  go_wp2_with (first | (go_at_call 69; (with_reducible refine (KA.out _ _ HA.out).mono ?_); rintro e W1 ⟨v0, v1, rfl, h0, h1, hb⟩; replace B := Aside0.mk (below_then B.out B.out.size hb); replace HA := Aside0.mk (HA.out.below hb); replace HC := Aside0.mk (HC.out.below hb); replace X := Aside0.mk (X.out.below hb); replace hx := fun i => X.out.cell i; replace Y := Aside0.mk (Y.out.below hb); replace hy := fun i => Y.out.cell i; replace Z := Aside0.mk (Z.out.below hb); replace hz := fun i => Z.out.cell i; replace zz := fun i => blk_frozen Z.out i; have SA0 := Aside0.mk h0; have SA1 := Aside0.mk h1; have e0' := SA0.out; have e1' := SA1.out; obtain ⟨P0, q0, e0⟩ := e0'.slc; subst e0; obtain ⟨P1, q1, e1⟩ := e1'.slc; subst e1; have hsz1 := blk_lt Z.out; have hxa := fun i => (X.out.alloc (.cells #[.slice P0 x0.length q0, .slice P1 x1.length q1] 128)).cell i; have hya := fun i => (Y.out.alloc (.cells #[.slice P0 x0.length q0, .slice P1 x1.length q1] 128)).cell i; have hza := fun i => (Z.out.alloc (.cells #[.slice P0 x0.length q0, .slice P1 x1.length q1] 128)).cell i; clear h0 h1 hb))
  (try clear hxa hya hza)
  have hal := below_alloc (Below.refl W1.heap.size W1) (.cells #[.slice P0 x0.length q0, .slice P1 x1.length q1] 128)
  replace B := Aside0.mk (below_then B.out B.out.size hal)
  replace HA := Aside0.mk (HA.out.below hal)
  replace HC := Aside0.mk (HC.out.below hal)
  replace SA0 := Aside0.mk (SA0.out.below hal)
  replace SA1 := Aside0.mk (SA1.out.below hal)
  replace X := Aside0.mk (X.out.alloc (.cells #[.slice P0 x0.length q0, .slice P1 x1.length q1] 128)); replace hx := fun i => X.out.cell i
  replace Y := Aside0.mk (Y.out.alloc (.cells #[.slice P0 x0.length q0, .slice P1 x1.length q1] 128)); replace hy := fun i => Y.out.cell i
  replace Z := Aside0.mk (Z.out.alloc (.cells #[.slice P0 x0.length q0, .slice P1 x1.length q1] 128)); replace hz := fun i => Z.out.cell i
  have U := Aside0.mk (Blk.new W1 #[.slice P0 x0.length q0, .slice P1 x1.length q1] 128); have hu := fun i => U.out.cell i; clear hal
  go_wp2_with (first | (go_at_call 69; (with_reducible refine (KB.out _ _ HC.out).mono ?_); rintro e W2 ⟨v2, v3, rfl, h0, h1, hb⟩; replace B := Aside0.mk (below_then B.out B.out.size hb); replace HA := Aside0.mk (HA.out.below hb); replace HC := Aside0.mk (HC.out.below hb); replace SA0 := Aside0.mk (SA0.out.below hb); replace SA1 := Aside0.mk (SA1.out.below hb); replace X := Aside0.mk (X.out.below hb); replace hx := fun i => X.out.cell i; replace Y := Aside0.mk (Y.out.below hb); replace hy := fun i => Y.out.cell i; replace Z := Aside0.mk (Z.out.below hb); replace hz := fun i => Z.out.cell i; replace zz := fun i => blk_frozen Z.out i; replace U := Aside0.mk (U.out.below hb); replace hu := fun i => U.out.cell i; have SB0 := Aside0.mk h0; have SB1 := Aside0.mk h1; have e0' := SB0.out; have e1' := SB1.out; obtain ⟨P2, q2, e0⟩ := e0'.slc; subst e0; obtain ⟨P3, q3, e1⟩ := e1'.slc; subst e1; have hsz2 := blk_lt Z.out; have hxa := fun i => (X.out.alloc (.cells #[.slice P2 y0.length q2, .slice P3 y1.length q3] 128)).cell i; have hya := fun i => (Y.out.alloc (.cells #[.slice P2 y0.length q2, .slice P3 y1.length q3] 128)).cell i; have hza := fun i => (Z.out.alloc (.cells #[.slice P2 y0.length q2, .slice P3 y1.length q3] 128)).cell i; have hua := fun i => (U.out.alloc (.cells #[.slice P2 y0.length q2, .slice P3 y1.length q3] 128)).cell i; clear h0 h1 hb))
  (try clear hxa hya hza hua)
  have hal := below_alloc (Below.refl W2.heap.size W2) (.cells #[.slice P2 y0.length q2, .slice P3 y1.length q3] 128)
  replace B := Aside0.mk (below_then B.out B.out.size hal)
  replace HA := Aside0.mk (HA.out.below hal)
  replace HC := Aside0.mk (HC.out.below hal)
  replace SA0 := Aside0.mk (SA0.out.below hal)
  replace SA1 := Aside0.mk (SA1.out.below hal)
  replace SB0 := Aside0.mk (SB0.out.below hal)
  replace SB1 := Aside0.mk (SB1.out.below hal)
  replace X := Aside0.mk (X.out.alloc (.cells #[.slice P2 y0.length q2, .slice P3 y1.length q3] 128)); replace hx := fun i => X.out.cell i
  replace Y := Aside0.mk (Y.out.alloc (.cells #[.slice P2 y0.length q2, .slice P3 y1.length q3] 128)); replace hy := fun i => Y.out.cell i
  replace Z := Aside0.mk (Z.out.alloc (.cells #[.slice P2 y0.length q2, .slice P3 y1.length q3] 128)); replace hz := fun i => Z.out.cell i
  replace U := Aside0.mk (U.out.alloc (.cells #[.slice P2 y0.length q2, .slice P3 y1.length q3] 128)); replace hu := fun i => U.out.cell i
  have V := Aside0.mk (Blk.new W2 #[.slice P2 y0.length q2, .slice P3 y1.length q3] 128); have hv := fun i => V.out.cell i; clear hal
  replace HA := Aside0.mk (HA.out.below (below_drew (Below.refl _ _)))
  replace HC := Aside0.mk (HC.out.below (below_drew (Below.refl _ _)))
  replace SA0 := Aside0.mk (SA0.out.below (below_drew (Below.refl _ _)))
  replace SA1 := Aside0.mk (SA1.out.below (below_drew (Below.refl _ _)))
  replace SB0 := Aside0.mk (SB0.out.below (below_drew (Below.refl _ _)))
  replace SB1 := Aside0.mk (SB1.out.below (below_drew (Below.refl _ _)))
  replace X := Aside0.mk (X.out.below (below_drew (Below.refl _ _)))
  replace Y := Aside0.mk (Y.out.below (below_drew (Below.refl _ _)))
  replace Z := Aside0.mk (Z.out.below (below_drew (Below.refl _ _)))
  replace U := Aside0.mk (U.out.below (below_drew (Below.refl _ _)))
  replace V := Aside0.mk (V.out.below (below_drew (Below.refl _ _)))
  replace B := Aside0.mk (below_drew B.out)
  go_region_held3 (fun W => (∀ i, W.cell? ⟨w.heap.size, i, none⟩ = (#[.int .i64 a.f0, .int .u64 a.f1, .int .u64 a.f2, .int .u64 a.f3, .int .u64 a.f4, .slice A5a a.f5.length c5a, .slice A6a a.f6.length c6a, .slice A7a a.f7.length c7a, .slice A8a a.f8.length c8a] : Array Value)[i]?) ∧ (∀ i, W.cell? ⟨w.heap.size + 1, i, none⟩ = (#[.int .i64 b.f0, .int .u64 b.f1, .int .u64 b.f2, .int .u64 b.f3, .int .u64 b.f4, .slice A5b b.f5.length c5b, .slice A6b b.f6.length c6b, .slice A7b b.f7.length c7b, .slice A8b b.f8.length c8b] : Array Value)[i]?) ∧ (∀ i, W.cell? ⟨W1.heap.size, i, none⟩ = (#[.slice P0 x0.length q0, .slice P1 x1.length q1] : Array Value)[i]?) ∧ (∀ i, W.cell? ⟨W2.heap.size, i, none⟩ = (#[.slice P2 y0.length q2, .slice P3 y1.length q3] : Array Value)[i]?)) (first | exact ⟨fun i => X.out.cell i, fun i => Y.out.cell i, fun i => U.out.cell i, fun i => V.out.cell i⟩ | exact ⟨fun i => blk_cell (blk_far X.out (by show w.heap.size ≠ w.heap.size + 1 + 1; omega) _) i, fun i => blk_cell (blk_far Y.out (by show w.heap.size + 1 ≠ w.heap.size + 1 + 1; omega) _) i, fun i => blk_cell (blk_far U.out (by show W1.heap.size ≠ w.heap.size + 1 + 1; omega) _) i, fun i => blk_cell (blk_far V.out (by show W2.heap.size ≠ w.heap.size + 1 + 1; omega) _) i⟩ | exact ⟨fun i => blk_cell (blk_far (blk_far X.out (by show w.heap.size ≠ w.heap.size + 1 + 1; omega) _) (by show w.heap.size ≠ w.heap.size + 1 + 1; omega) _) i, fun i => blk_cell (blk_far (blk_far Y.out (by show w.heap.size + 1 ≠ w.heap.size + 1 + 1; omega) _) (by show w.heap.size + 1 ≠ w.heap.size + 1 + 1; omega) _) i, fun i => blk_cell (blk_far (blk_far U.out (by show W1.heap.size ≠ w.heap.size + 1 + 1; omega) _) (by show W1.heap.size ≠ w.heap.size + 1 + 1; omega) _) i, fun i => blk_cell (blk_far (blk_far V.out (by show W2.heap.size ≠ w.heap.size + 1 + 1; omega) _) (by show W2.heap.size ≠ w.heap.size + 1 + 1; omega) _) i⟩) (first | (go_at_call 71; (with_reducible refine (HD.out _).mono ?_); rintro e W3 ⟨rfl, hb⟩; replace B := Aside0.mk (below_then B.out B.out.size hb); replace HA := Aside0.mk (HA.out.below hb); replace HC := Aside0.mk (HC.out.below hb); replace SA0 := Aside0.mk (SA0.out.below hb); replace SA1 := Aside0.mk (SA1.out.below hb); replace SB0 := Aside0.mk (SB0.out.below hb); replace SB1 := Aside0.mk (SB1.out.below hb); replace X := Aside0.mk (X.out.below hb); replace hx := fun i => X.out.cell i; replace Y := Aside0.mk (Y.out.below hb); replace hy := fun i => Y.out.cell i; replace Z := Aside0.mk (Z.out.below hb); replace hz := fun i => Z.out.cell i; replace zz := fun i => blk_frozen Z.out i; replace U := Aside0.mk (U.out.below hb); replace hu := fun i => U.out.cell i; replace V := Aside0.mk (V.out.below hb); replace hv := fun i => V.out.cell i; clear  hb) | (go_at_call 70; (with_reducible refine (VD.out _ _ _ _ _ SA0.out SA1.out SB0.out SB1.out).mono ?_); rintro e W4 ⟨rfl, hb⟩; replace B := Aside0.mk (below_then B.out B.out.size hb); replace HA := Aside0.mk (HA.out.below hb); replace HC := Aside0.mk (HC.out.below hb); replace SA0 := Aside0.mk (SA0.out.below hb); replace SA1 := Aside0.mk (SA1.out.below hb); replace SB0 := Aside0.mk (SB0.out.below hb); replace SB1 := Aside0.mk (SB1.out.below hb); replace X := Aside0.mk (X.out.below hb); replace hx := fun i => X.out.cell i; replace Y := Aside0.mk (Y.out.below hb); replace hy := fun i => Y.out.cell i; replace Z := Aside0.mk (Z.out.below hb); replace hz := fun i => Z.out.cell i; replace zz := fun i => blk_frozen Z.out i; replace U := Aside0.mk (U.out.below hb); replace hu := fun i => U.out.cell i; replace V := Aside0.mk (V.out.below hb); replace hv := fun i => V.out.cell i; clear  hb))
  all_goals go_wp2
  all_goals (refine bodyPost_ret (results_ct rfl _ _ (w.heap.size + 1 + 1) 70 #[_, _] (0, 0) _ rfl (blk_put (blk_put (Z.out) 0 _ rfl) 1 _ rfl) Try.underlying70 rfl (by kernel_rfl)) rfl ?_; exact ⟨rfl, belowS B.out.size B.out (by omega)⟩)
end Go.Proofs.Ytgkplhdcafbfbaa.P
namespace Go.Proofs.Ytgkplhdcafbfbaa.P
open Go.RowKit Go.Shelf Go.Proofs.YtgkplhdcafbfbaaW.PrintWords Go.Proofs.YtgkplhdcafbfbaaW.PrintLast Go.Proofs.YtgkplhdcafbfbaaW.PrintMore
theorem intsR_zero {x y : Hi} (h : (intsR x y).2 = 0) : checkR x = 0 ∧ checkR y = 0 ∧ intsR x y = (intsV x y, 0) := by
  unfold intsR at h ⊢
  by_cases c1 : checkR x = 0
  · rw [if_neg (by simp [c1])] at h ⊢
    by_cases c2 : checkR y = 0
    · rw [if_neg (by simp [c2])]; exact ⟨c1, c2, rfl⟩
    · rw [if_pos c2] at h; exact absurd h c2
  · rw [if_pos c1] at h; exact absurd h c1
theorem scaleResets_plain {a b x y : Hi} {tt : Int} (hwa : wfH a) (hwb : wfH b) (a7 : a.f7.length ≤ 1024) (a8 : a.f8.length ≤ 1024) (b7 : b.f7.length ≤ 1024) (b8 : b.f8.length ≤ 1024) (e1 : (intsR a b).2 = 0) (h1 : (intsR a b).1.1 = 0) (hx : scaleR a tt = (x, 0)) (hy : scaleR b tt = (y, 0)) :
    wfH x ∧ wfH y ∧ intsR x y = ((0, 0), 0) := by
  obtain ⟨k1, k2, k3⟩ := intsR_zero e1
  rw [k3] at h1
  obtain ⟨-, t0, t1, p, n, hp, hn⟩ := ints_ok (h := a) (tt := tt) (by rw [hx])
  obtain ⟨-, u0, u1, q, m, hq, hm⟩ := ints_ok (h := b) (tt := tt) (by rw [hy])
  obtain ⟨x', ex, cx, ox, ⟨sx0, sx1, sx2, sx3, sx4⟩, wx, -⟩ := low_right hwa k1 a7 a8 t0 t1 hp hn
  obtain ⟨y', ey, cy, oy, ⟨sy0, sy1, sy2, sy3, sy4⟩, wy, -⟩ := low_right hwb k2 b7 b8 u0 u1 hq hm
  rw [hx] at ex
  rw [hy] at ey
  injection ex with ex _
  injection ey with ey _
  subst ex
  subst ey
  simp only [lowH] at sx0 sx1 sx2 sx3 sx4 sy0 sy1 sy2 sy3 sy4
  refine ⟨wx, wy, ?_⟩
  have hv : (intsV x y).1 = 0 := by
    unfold intsV at h1 ⊢
    rw [verdR_zero] at h1 ⊢
    obtain ⟨x1, x2, x3⟩ := h1
    unfold headsR at x1 ⊢
    rw [numsV_zero] at x1 ⊢
    have hs : a.f0 = b.f0 := x1.1
    have ra := openR_row hwa
    have rb := openR_row hwb
    rw [ox, oy]
    rw [← hs] at hq hm
    exact ⟨⟨by rw [sx0, sy0], by rw [sx1, sy1]; exact x1.2.1, by rw [sx3, sy3]; exact x1.2.2.1, by rw [sx2, sy2]; exact x1.2.2.2⟩, lessI_wide ra.1 rb.1 hp hq x2, lessI_wide ra.2 rb.2 hn hm x3⟩
  unfold intsR
  rw [if_neg (by simp [cx]), if_neg (by simp [cy]), intsV_fst hv]
set_option maxHeartbeats 32000000 in
set_option maxRecDepth 100000 in
theorem scaleResets_c (a b : Hi) (tt : Int) (hwa : wfI a) (hwb : wfI b) (htt : i64 tt) (w : World) (u v x2 : Value) (hx2 : x2 = .int .i64 tt) (hua : HI w u a) (hub : HI w v b) : Calls Try.prog 9 #[u, v, x2] w fun e w' => e = .returned (.bool true) ∧ Below w.heap.size w w' := by
  subst hx2
  have hud := Try.underlying30
  have huv := Try.underlying70
  obtain ⟨b1, hb1, cs⟩ := small25_c a hwa.2.2.2.2.2.1 hwa.2.2.2.2.2.2.1
  obtain ⟨b2, hb2, ct⟩ := small25_c b hwb.2.2.2.2.2.1 hwb.2.2.2.2.2.2.1
  have CS := Aside0.mk cs
  have CT := Aside0.mk ct
  clear cs ct
  cases b1 with
  | false =>
    clear hb1 hb2
    obtain ⟨A5a, c5a, A6a, c6a, A7a, c7a, A8a, c8a, e, -⟩ := hua.open_
    subst e
    obtain ⟨A5b, c5b, A6b, c6b, A7b, c7b, A8b, c8b, e, -⟩ := hub.open_
    subst e
    have B := Aside0.mk (below_alloc (below_alloc (Below.refl w.heap.size w) (.cells #[.int .i64 a.f0, .int .u64 a.f1, .int .u64 a.f2, .int .u64 a.f3, .int .u64 a.f4, .slice A5a a.f5.length c5a, .slice A6a a.f6.length c6a, .slice A7a a.f7.length c7a, .slice A8a a.f8.length c8a] 30)) (.cells #[.int .i64 b.f0, .int .u64 b.f1, .int .u64 b.f2, .int .u64 b.f3, .int .u64 b.f4, .slice A5b b.f5.length c5b, .slice A6b b.f6.length c6b, .slice A7b b.f7.length c7b, .slice A8b b.f8.length c8b] 30))
    have X := Aside0.mk ((Blk.new w #[.int .i64 a.f0, .int .u64 a.f1, .int .u64 a.f2, .int .u64 a.f3, .int .u64 a.f4, .slice A5a a.f5.length c5a, .slice A6a a.f6.length c6a, .slice A7a a.f7.length c7a, .slice A8a a.f8.length c8a] 30).alloc (.cells #[.int .i64 b.f0, .int .u64 b.f1, .int .u64 b.f2, .int .u64 b.f3, .int .u64 b.f4, .slice A5b b.f5.length c5b, .slice A6b b.f6.length c6b, .slice A7b b.f7.length c7b, .slice A8b b.f8.length c8b] 30))
    have hx := fun i => X.out.cell i
    have Y := Aside0.mk (show Blk ((w.alloc (.cells #[.int .i64 a.f0, .int .u64 a.f1, .int .u64 a.f2, .int .u64 a.f3, .int .u64 a.f4, .slice A5a a.f5.length c5a, .slice A6a a.f6.length c6a, .slice A7a a.f7.length c7a, .slice A8a a.f8.length c8a] 30)).alloc (.cells #[.int .i64 b.f0, .int .u64 b.f1, .int .u64 b.f2, .int .u64 b.f3, .int .u64 b.f4, .slice A5b b.f5.length c5b, .slice A6b b.f6.length c6b, .slice A7b b.f7.length c7b, .slice A8b b.f8.length c8b] 30)) (w.heap.size + 1) #[.int .i64 b.f0, .int .u64 b.f1, .int .u64 b.f2, .int .u64 b.f3, .int .u64 b.f4, .slice A5b b.f5.length c5b, .slice A6b b.f6.length c6b, .slice A7b b.f7.length c7b, .slice A8b b.f8.length c8b] 30 by have := Blk.new (w.alloc (.cells #[.int .i64 a.f0, .int .u64 a.f1, .int .u64 a.f2, .int .u64 a.f3, .int .u64 a.f4, .slice A5a a.f5.length c5a, .slice A6a a.f6.length c6a, .slice A7a a.f7.length c7a, .slice A8a a.f8.length c8a] 30)) #[.int .i64 b.f0, .int .u64 b.f1, .int .u64 b.f2, .int .u64 b.f3, .int .u64 b.f4, .slice A5b b.f5.length c5b, .slice A6b b.f6.length c6b, .slice A7b b.f7.length c7b, .slice A8b b.f8.length c8b] 30; simpa using this)
    have hy := fun i => Y.out.cell i
    have HA := Aside0.mk (hua.below B.out)
    have HB := Aside0.mk (hub.below B.out)
    clear hua hub
    go_enter Try.func9, Try.ntmps9
    go_wp2_with (first | (go_at_call 14; (with_reducible refine (CS.out _ _ HA.out).mono ?_); rintro e W1 ⟨rfl, hb⟩; replace B := Aside0.mk (below_then B.out B.out.size hb); replace HA := Aside0.mk (HA.out.below hb); replace HB := Aside0.mk (HB.out.below hb); replace X := Aside0.mk (X.out.below hb); replace hx := fun i => X.out.cell i; replace Y := Aside0.mk (Y.out.below hb); replace hy := fun i => Y.out.cell i; clear  hb) | (go_at_call 13; (with_reducible refine (awake25_c _).mono ?_); rintro e W3 ⟨rfl, hb⟩; replace B := Aside0.mk (below_then B.out B.out.size hb); replace HA := Aside0.mk (HA.out.below hb); replace HB := Aside0.mk (HB.out.below hb); replace X := Aside0.mk (X.out.below hb); replace hx := fun i => X.out.cell i; replace Y := Aside0.mk (Y.out.below hb); replace hy := fun i => Y.out.cell i; clear  hb))
    go_ret
    exact ⟨rfl, B.out⟩
  | true =>
  cases b2 with
  | false =>
    clear hb1 hb2
    obtain ⟨A5a, c5a, A6a, c6a, A7a, c7a, A8a, c8a, e, -⟩ := hua.open_
    subst e
    obtain ⟨A5b, c5b, A6b, c6b, A7b, c7b, A8b, c8b, e, -⟩ := hub.open_
    subst e
    have B := Aside0.mk (below_alloc (below_alloc (Below.refl w.heap.size w) (.cells #[.int .i64 a.f0, .int .u64 a.f1, .int .u64 a.f2, .int .u64 a.f3, .int .u64 a.f4, .slice A5a a.f5.length c5a, .slice A6a a.f6.length c6a, .slice A7a a.f7.length c7a, .slice A8a a.f8.length c8a] 30)) (.cells #[.int .i64 b.f0, .int .u64 b.f1, .int .u64 b.f2, .int .u64 b.f3, .int .u64 b.f4, .slice A5b b.f5.length c5b, .slice A6b b.f6.length c6b, .slice A7b b.f7.length c7b, .slice A8b b.f8.length c8b] 30))
    have X := Aside0.mk ((Blk.new w #[.int .i64 a.f0, .int .u64 a.f1, .int .u64 a.f2, .int .u64 a.f3, .int .u64 a.f4, .slice A5a a.f5.length c5a, .slice A6a a.f6.length c6a, .slice A7a a.f7.length c7a, .slice A8a a.f8.length c8a] 30).alloc (.cells #[.int .i64 b.f0, .int .u64 b.f1, .int .u64 b.f2, .int .u64 b.f3, .int .u64 b.f4, .slice A5b b.f5.length c5b, .slice A6b b.f6.length c6b, .slice A7b b.f7.length c7b, .slice A8b b.f8.length c8b] 30))
    have hx := fun i => X.out.cell i
    have Y := Aside0.mk (show Blk ((w.alloc (.cells #[.int .i64 a.f0, .int .u64 a.f1, .int .u64 a.f2, .int .u64 a.f3, .int .u64 a.f4, .slice A5a a.f5.length c5a, .slice A6a a.f6.length c6a, .slice A7a a.f7.length c7a, .slice A8a a.f8.length c8a] 30)).alloc (.cells #[.int .i64 b.f0, .int .u64 b.f1, .int .u64 b.f2, .int .u64 b.f3, .int .u64 b.f4, .slice A5b b.f5.length c5b, .slice A6b b.f6.length c6b, .slice A7b b.f7.length c7b, .slice A8b b.f8.length c8b] 30)) (w.heap.size + 1) #[.int .i64 b.f0, .int .u64 b.f1, .int .u64 b.f2, .int .u64 b.f3, .int .u64 b.f4, .slice A5b b.f5.length c5b, .slice A6b b.f6.length c6b, .slice A7b b.f7.length c7b, .slice A8b b.f8.length c8b] 30 by have := Blk.new (w.alloc (.cells #[.int .i64 a.f0, .int .u64 a.f1, .int .u64 a.f2, .int .u64 a.f3, .int .u64 a.f4, .slice A5a a.f5.length c5a, .slice A6a a.f6.length c6a, .slice A7a a.f7.length c7a, .slice A8a a.f8.length c8a] 30)) #[.int .i64 b.f0, .int .u64 b.f1, .int .u64 b.f2, .int .u64 b.f3, .int .u64 b.f4, .slice A5b b.f5.length c5b, .slice A6b b.f6.length c6b, .slice A7b b.f7.length c7b, .slice A8b b.f8.length c8b] 30; simpa using this)
    have hy := fun i => Y.out.cell i
    have HA := Aside0.mk (hua.below B.out)
    have HB := Aside0.mk (hub.below B.out)
    clear hua hub
    go_enter Try.func9, Try.ntmps9
    go_wp2_with (first | (go_at_call 14; (with_reducible refine (CS.out _ _ HA.out).mono ?_); rintro e W1 ⟨rfl, hb⟩; replace B := Aside0.mk (below_then B.out B.out.size hb); replace HA := Aside0.mk (HA.out.below hb); replace HB := Aside0.mk (HB.out.below hb); replace X := Aside0.mk (X.out.below hb); replace hx := fun i => X.out.cell i; replace Y := Aside0.mk (Y.out.below hb); replace hy := fun i => Y.out.cell i; clear  hb) | (go_at_call 14; (with_reducible refine (CT.out _ _ HB.out).mono ?_); rintro e W2 ⟨rfl, hb⟩; replace B := Aside0.mk (below_then B.out B.out.size hb); replace HA := Aside0.mk (HA.out.below hb); replace HB := Aside0.mk (HB.out.below hb); replace X := Aside0.mk (X.out.below hb); replace hx := fun i => X.out.cell i; replace Y := Aside0.mk (Y.out.below hb); replace hy := fun i => Y.out.cell i; clear  hb) | (go_at_call 13; (with_reducible refine (awake25_c _).mono ?_); rintro e W3 ⟨rfl, hb⟩; replace B := Aside0.mk (below_then B.out B.out.size hb); replace HA := Aside0.mk (HA.out.below hb); replace HB := Aside0.mk (HB.out.below hb); replace X := Aside0.mk (X.out.below hb); replace hx := fun i => X.out.cell i; replace Y := Aside0.mk (Y.out.below hb); replace hy := fun i => Y.out.cell i; clear  hb))
    go_ret
    exact ⟨rfl, B.out⟩
  | true =>
  obtain ⟨n5, n6, n7, n8⟩ := hb1 rfl
  obtain ⟨m5, m6, m7, m8⟩ := hb2 rfl
  have hWa := wfH_of hwa (by omega) (by omega)
  have hWb := wfH_of hwb (by omega) (by omega)
  obtain ⟨⟨x, f⟩, hx⟩ : ∃ r, scaleR a tt = r := ⟨_, rfl⟩
  obtain ⟨⟨y, g⟩, hy⟩ : ∃ r, scaleR b tt = r := ⟨_, rfl⟩
  have k1 := resetI_c a b hWa hWb
  have n1 := scale25_c a x f tt hWa htt hx
  have n2 := scale25_c b y g tt hWb htt hy
  have hg := fun (e1 : (intsR a b).2 = 0) (h1 : (intsR a b).1.1 = 0) (ef : f = 0) (eg : g = 0) => scaleResets_plain hWa hWb (by omega) (by omega) (by omega) (by omega) e1 h1 (by rw [hx, ef]) (by rw [hy, eg])
  have N1 := Aside0.mk n1
  have N2 := Aside0.mk n2
  clear n5 n6 n7 n8 m5 m6 m7 m8 hb1 hb2 hwa hwb hWa hWb hx hy n1 n2
  generalize intsR a b = r1 at *
  obtain ⟨⟨v1, v2⟩, e⟩ := r1
  simp only at k1 hg
  have K1 := Aside0.mk k1
  clear k1
  by_cases c1 : e = 0
  rotate_left
  · have d1 : (e != 0) = true := bne_iff_ne.2 c1
    clear c1 hg
    obtain ⟨A5a, c5a, A6a, c6a, A7a, c7a, A8a, c8a, e, -⟩ := hua.open_
    subst e
    obtain ⟨A5b, c5b, A6b, c6b, A7b, c7b, A8b, c8b, e, -⟩ := hub.open_
    subst e
    have B := Aside0.mk (below_alloc (below_alloc (Below.refl w.heap.size w) (.cells #[.int .i64 a.f0, .int .u64 a.f1, .int .u64 a.f2, .int .u64 a.f3, .int .u64 a.f4, .slice A5a a.f5.length c5a, .slice A6a a.f6.length c6a, .slice A7a a.f7.length c7a, .slice A8a a.f8.length c8a] 30)) (.cells #[.int .i64 b.f0, .int .u64 b.f1, .int .u64 b.f2, .int .u64 b.f3, .int .u64 b.f4, .slice A5b b.f5.length c5b, .slice A6b b.f6.length c6b, .slice A7b b.f7.length c7b, .slice A8b b.f8.length c8b] 30))
    have X := Aside0.mk ((Blk.new w #[.int .i64 a.f0, .int .u64 a.f1, .int .u64 a.f2, .int .u64 a.f3, .int .u64 a.f4, .slice A5a a.f5.length c5a, .slice A6a a.f6.length c6a, .slice A7a a.f7.length c7a, .slice A8a a.f8.length c8a] 30).alloc (.cells #[.int .i64 b.f0, .int .u64 b.f1, .int .u64 b.f2, .int .u64 b.f3, .int .u64 b.f4, .slice A5b b.f5.length c5b, .slice A6b b.f6.length c6b, .slice A7b b.f7.length c7b, .slice A8b b.f8.length c8b] 30))
    have hx := fun i => X.out.cell i
    have Y := Aside0.mk (show Blk ((w.alloc (.cells #[.int .i64 a.f0, .int .u64 a.f1, .int .u64 a.f2, .int .u64 a.f3, .int .u64 a.f4, .slice A5a a.f5.length c5a, .slice A6a a.f6.length c6a, .slice A7a a.f7.length c7a, .slice A8a a.f8.length c8a] 30)).alloc (.cells #[.int .i64 b.f0, .int .u64 b.f1, .int .u64 b.f2, .int .u64 b.f3, .int .u64 b.f4, .slice A5b b.f5.length c5b, .slice A6b b.f6.length c6b, .slice A7b b.f7.length c7b, .slice A8b b.f8.length c8b] 30)) (w.heap.size + 1) #[.int .i64 b.f0, .int .u64 b.f1, .int .u64 b.f2, .int .u64 b.f3, .int .u64 b.f4, .slice A5b b.f5.length c5b, .slice A6b b.f6.length c6b, .slice A7b b.f7.length c7b, .slice A8b b.f8.length c8b] 30 by have := Blk.new (w.alloc (.cells #[.int .i64 a.f0, .int .u64 a.f1, .int .u64 a.f2, .int .u64 a.f3, .int .u64 a.f4, .slice A5a a.f5.length c5a, .slice A6a a.f6.length c6a, .slice A7a a.f7.length c7a, .slice A8a a.f8.length c8a] 30)) #[.int .i64 b.f0, .int .u64 b.f1, .int .u64 b.f2, .int .u64 b.f3, .int .u64 b.f4, .slice A5b b.f5.length c5b, .slice A6b b.f6.length c6b, .slice A7b b.f7.length c7b, .slice A8b b.f8.length c8b] 30; simpa using this)
    have hy := fun i => Y.out.cell i
    have HA := Aside0.mk (hua.below B.out)
    have HB := Aside0.mk (hub.below B.out)
    clear hua hub
    go_enter Try.func9, Try.ntmps9
    go_wp2_with (first | (go_at_call 14; (with_reducible refine (CS.out _ _ HA.out).mono ?_); rintro e W1 ⟨rfl, hb⟩; replace B := Aside0.mk (below_then B.out B.out.size hb); replace HA := Aside0.mk (HA.out.below hb); replace HB := Aside0.mk (HB.out.below hb); replace X := Aside0.mk (X.out.below hb); replace hx := fun i => X.out.cell i; replace Y := Aside0.mk (Y.out.below hb); replace hy := fun i => Y.out.cell i; clear  hb) | (go_at_call 14; (with_reducible refine (CT.out _ _ HB.out).mono ?_); rintro e W2 ⟨rfl, hb⟩; replace B := Aside0.mk (below_then B.out B.out.size hb); replace HA := Aside0.mk (HA.out.below hb); replace HB := Aside0.mk (HB.out.below hb); replace X := Aside0.mk (X.out.below hb); replace hx := fun i => X.out.cell i; replace Y := Aside0.mk (Y.out.below hb); replace hy := fun i => Y.out.cell i; clear  hb) | (go_at_call 31; (with_reducible refine (K1.out _ _ _ HA.out HB.out).mono ?_); rintro e W3 ⟨rfl, hb⟩; replace B := Aside0.mk (below_then B.out B.out.size hb); replace HA := Aside0.mk (HA.out.below hb); replace HB := Aside0.mk (HB.out.below hb); replace X := Aside0.mk (X.out.below hb); replace hx := fun i => X.out.cell i; replace Y := Aside0.mk (Y.out.below hb); replace hy := fun i => Y.out.cell i; have hxa := fun i => (X.out.alloc (.cells #[.int .i64 v1, .int .i64 v2] 70)).cell i; have hya := fun i => (Y.out.alloc (.cells #[.int .i64 v1, .int .i64 v2] 70)).cell i; clear  hb))
    (try clear hxa hya)
    have hal := below_alloc (Below.refl W3.heap.size W3) (.cells #[.int .i64 v1, .int .i64 v2] 70)
    replace B := Aside0.mk (below_then B.out B.out.size hal)
    replace HA := Aside0.mk (HA.out.below hal)
    replace HB := Aside0.mk (HB.out.below hal)
    replace X := Aside0.mk (X.out.alloc (.cells #[.int .i64 v1, .int .i64 v2] 70)); replace hx := fun i => X.out.cell i
    replace Y := Aside0.mk (Y.out.alloc (.cells #[.int .i64 v1, .int .i64 v2] 70)); replace hy := fun i => Y.out.cell i
    have P := Aside0.mk (Blk.new W3 #[.int .i64 v1, .int .i64 v2] 70); have hp := fun i => P.out.cell i; clear hal
    go_wp2_with (first | (go_at_call 15; (with_reducible refine (N1.out _ _ HA.out).mono ?_); rintro e W4 ⟨D5x, g5x, D6x, g6x, D7x, g7x, D8x, g8x, rfl, hh, hb⟩; replace B := Aside0.mk (below_then B.out B.out.size hb); replace HA := Aside0.mk (HA.out.below hb); replace HB := Aside0.mk (HB.out.below hb); replace X := Aside0.mk (X.out.below hb); replace hx := fun i => X.out.cell i; replace Y := Aside0.mk (Y.out.below hb); replace hy := fun i => Y.out.cell i; replace P := Aside0.mk (P.out.below hb); replace hp := fun i => P.out.cell i; have HX := Aside0.mk hh; have hxa := fun i => (X.out.alloc (.cells #[.int .i64 x.f0, .int .u64 x.f1, .int .u64 x.f2, .int .u64 x.f3, .int .u64 x.f4, .slice D5x x.f5.length g5x, .slice D6x x.f6.length g6x, .slice D7x x.f7.length g7x, .slice D8x x.f8.length g8x] 30)).cell i; have hya := fun i => (Y.out.alloc (.cells #[.int .i64 x.f0, .int .u64 x.f1, .int .u64 x.f2, .int .u64 x.f3, .int .u64 x.f4, .slice D5x x.f5.length g5x, .slice D6x x.f6.length g6x, .slice D7x x.f7.length g7x, .slice D8x x.f8.length g8x] 30)).cell i; have hpa := fun i => (P.out.alloc (.cells #[.int .i64 x.f0, .int .u64 x.f1, .int .u64 x.f2, .int .u64 x.f3, .int .u64 x.f4, .slice D5x x.f5.length g5x, .slice D6x x.f6.length g6x, .slice D7x x.f7.length g7x, .slice D8x x.f8.length g8x] 30)).cell i; clear hh hb))
    (try clear hxa hya hpa)
    have hal := below_alloc (Below.refl W4.heap.size W4) (.cells #[.int .i64 x.f0, .int .u64 x.f1, .int .u64 x.f2, .int .u64 x.f3, .int .u64 x.f4, .slice D5x x.f5.length g5x, .slice D6x x.f6.length g6x, .slice D7x x.f7.length g7x, .slice D8x x.f8.length g8x] 30)
    replace B := Aside0.mk (below_then B.out B.out.size hal)
    replace HA := Aside0.mk (HA.out.below hal)
    replace HB := Aside0.mk (HB.out.below hal)
    replace HX := Aside0.mk (HX.out.below hal)
    replace X := Aside0.mk (X.out.alloc (.cells #[.int .i64 x.f0, .int .u64 x.f1, .int .u64 x.f2, .int .u64 x.f3, .int .u64 x.f4, .slice D5x x.f5.length g5x, .slice D6x x.f6.length g6x, .slice D7x x.f7.length g7x, .slice D8x x.f8.length g8x] 30)); replace hx := fun i => X.out.cell i
    replace Y := Aside0.mk (Y.out.alloc (.cells #[.int .i64 x.f0, .int .u64 x.f1, .int .u64 x.f2, .int .u64 x.f3, .int .u64 x.f4, .slice D5x x.f5.length g5x, .slice D6x x.f6.length g6x, .slice D7x x.f7.length g7x, .slice D8x x.f8.length g8x] 30)); replace hy := fun i => Y.out.cell i
    replace P := Aside0.mk (P.out.alloc (.cells #[.int .i64 x.f0, .int .u64 x.f1, .int .u64 x.f2, .int .u64 x.f3, .int .u64 x.f4, .slice D5x x.f5.length g5x, .slice D6x x.f6.length g6x, .slice D7x x.f7.length g7x, .slice D8x x.f8.length g8x] 30)); replace hp := fun i => P.out.cell i
    have Q := Aside0.mk (Blk.new W4 #[.int .i64 x.f0, .int .u64 x.f1, .int .u64 x.f2, .int .u64 x.f3, .int .u64 x.f4, .slice D5x x.f5.length g5x, .slice D6x x.f6.length g6x, .slice D7x x.f7.length g7x, .slice D8x x.f8.length g8x] 30); have hq := fun i => Q.out.cell i; clear hal
    go_wp2_with (first | (go_at_call 15; (with_reducible refine (N2.out _ _ HB.out).mono ?_); rintro e W5 ⟨D5y, g5y, D6y, g6y, D7y, g7y, D8y, g8y, rfl, hh, hb⟩; replace B := Aside0.mk (below_then B.out B.out.size hb); replace HA := Aside0.mk (HA.out.below hb); replace HB := Aside0.mk (HB.out.below hb); replace HX := Aside0.mk (HX.out.below hb); replace X := Aside0.mk (X.out.below hb); replace hx := fun i => X.out.cell i; replace Y := Aside0.mk (Y.out.below hb); replace hy := fun i => Y.out.cell i; replace P := Aside0.mk (P.out.below hb); replace hp := fun i => P.out.cell i; replace Q := Aside0.mk (Q.out.below hb); replace hq := fun i => Q.out.cell i; have HY := Aside0.mk hh; have hxa := fun i => (X.out.alloc (.cells #[.int .i64 y.f0, .int .u64 y.f1, .int .u64 y.f2, .int .u64 y.f3, .int .u64 y.f4, .slice D5y y.f5.length g5y, .slice D6y y.f6.length g6y, .slice D7y y.f7.length g7y, .slice D8y y.f8.length g8y] 30)).cell i; have hya := fun i => (Y.out.alloc (.cells #[.int .i64 y.f0, .int .u64 y.f1, .int .u64 y.f2, .int .u64 y.f3, .int .u64 y.f4, .slice D5y y.f5.length g5y, .slice D6y y.f6.length g6y, .slice D7y y.f7.length g7y, .slice D8y y.f8.length g8y] 30)).cell i; have hpa := fun i => (P.out.alloc (.cells #[.int .i64 y.f0, .int .u64 y.f1, .int .u64 y.f2, .int .u64 y.f3, .int .u64 y.f4, .slice D5y y.f5.length g5y, .slice D6y y.f6.length g6y, .slice D7y y.f7.length g7y, .slice D8y y.f8.length g8y] 30)).cell i; have hqa := fun i => (Q.out.alloc (.cells #[.int .i64 y.f0, .int .u64 y.f1, .int .u64 y.f2, .int .u64 y.f3, .int .u64 y.f4, .slice D5y y.f5.length g5y, .slice D6y y.f6.length g6y, .slice D7y y.f7.length g7y, .slice D8y y.f8.length g8y] 30)).cell i; clear hh hb))
    (try clear hxa hya hpa hqa)
    have hal := below_alloc (Below.refl W5.heap.size W5) (.cells #[.int .i64 y.f0, .int .u64 y.f1, .int .u64 y.f2, .int .u64 y.f3, .int .u64 y.f4, .slice D5y y.f5.length g5y, .slice D6y y.f6.length g6y, .slice D7y y.f7.length g7y, .slice D8y y.f8.length g8y] 30)
    replace B := Aside0.mk (below_then B.out B.out.size hal)
    replace HA := Aside0.mk (HA.out.below hal)
    replace HB := Aside0.mk (HB.out.below hal)
    replace HX := Aside0.mk (HX.out.below hal)
    replace HY := Aside0.mk (HY.out.below hal)
    replace X := Aside0.mk (X.out.alloc (.cells #[.int .i64 y.f0, .int .u64 y.f1, .int .u64 y.f2, .int .u64 y.f3, .int .u64 y.f4, .slice D5y y.f5.length g5y, .slice D6y y.f6.length g6y, .slice D7y y.f7.length g7y, .slice D8y y.f8.length g8y] 30)); replace hx := fun i => X.out.cell i
    replace Y := Aside0.mk (Y.out.alloc (.cells #[.int .i64 y.f0, .int .u64 y.f1, .int .u64 y.f2, .int .u64 y.f3, .int .u64 y.f4, .slice D5y y.f5.length g5y, .slice D6y y.f6.length g6y, .slice D7y y.f7.length g7y, .slice D8y y.f8.length g8y] 30)); replace hy := fun i => Y.out.cell i
    replace P := Aside0.mk (P.out.alloc (.cells #[.int .i64 y.f0, .int .u64 y.f1, .int .u64 y.f2, .int .u64 y.f3, .int .u64 y.f4, .slice D5y y.f5.length g5y, .slice D6y y.f6.length g6y, .slice D7y y.f7.length g7y, .slice D8y y.f8.length g8y] 30)); replace hp := fun i => P.out.cell i
    replace Q := Aside0.mk (Q.out.alloc (.cells #[.int .i64 y.f0, .int .u64 y.f1, .int .u64 y.f2, .int .u64 y.f3, .int .u64 y.f4, .slice D5y y.f5.length g5y, .slice D6y y.f6.length g6y, .slice D7y y.f7.length g7y, .slice D8y y.f8.length g8y] 30)); replace hq := fun i => Q.out.cell i
    have R := Aside0.mk (Blk.new W5 #[.int .i64 y.f0, .int .u64 y.f1, .int .u64 y.f2, .int .u64 y.f3, .int .u64 y.f4, .slice D5y y.f5.length g5y, .slice D6y y.f6.length g6y, .slice D7y y.f7.length g7y, .slice D8y y.f8.length g8y] 30); have hr := fun i => R.out.cell i; clear hal
    go_wp2_with (first | (go_at_call 13; (with_reducible refine (awake25_c _).mono ?_); rintro e W6 ⟨rfl, hb⟩; replace B := Aside0.mk (below_then B.out B.out.size hb); replace HA := Aside0.mk (HA.out.below hb); replace HB := Aside0.mk (HB.out.below hb); replace HX := Aside0.mk (HX.out.below hb); replace HY := Aside0.mk (HY.out.below hb); replace X := Aside0.mk (X.out.below hb); replace hx := fun i => X.out.cell i; replace Y := Aside0.mk (Y.out.below hb); replace hy := fun i => Y.out.cell i; replace P := Aside0.mk (P.out.below hb); replace hp := fun i => P.out.cell i; replace Q := Aside0.mk (Q.out.below hb); replace hq := fun i => Q.out.cell i; replace R := Aside0.mk (R.out.below hb); replace hr := fun i => R.out.cell i; clear  hb))
    go_ret
    exact ⟨rfl, B.out⟩
  subst c1
  by_cases c2 : f = 0
  rotate_left
  · have d1 : (f != 0) = true := bne_iff_ne.2 c2
    clear c2 hg
    obtain ⟨A5a, c5a, A6a, c6a, A7a, c7a, A8a, c8a, e, -⟩ := hua.open_
    subst e
    obtain ⟨A5b, c5b, A6b, c6b, A7b, c7b, A8b, c8b, e, -⟩ := hub.open_
    subst e
    have B := Aside0.mk (below_alloc (below_alloc (Below.refl w.heap.size w) (.cells #[.int .i64 a.f0, .int .u64 a.f1, .int .u64 a.f2, .int .u64 a.f3, .int .u64 a.f4, .slice A5a a.f5.length c5a, .slice A6a a.f6.length c6a, .slice A7a a.f7.length c7a, .slice A8a a.f8.length c8a] 30)) (.cells #[.int .i64 b.f0, .int .u64 b.f1, .int .u64 b.f2, .int .u64 b.f3, .int .u64 b.f4, .slice A5b b.f5.length c5b, .slice A6b b.f6.length c6b, .slice A7b b.f7.length c7b, .slice A8b b.f8.length c8b] 30))
    have X := Aside0.mk ((Blk.new w #[.int .i64 a.f0, .int .u64 a.f1, .int .u64 a.f2, .int .u64 a.f3, .int .u64 a.f4, .slice A5a a.f5.length c5a, .slice A6a a.f6.length c6a, .slice A7a a.f7.length c7a, .slice A8a a.f8.length c8a] 30).alloc (.cells #[.int .i64 b.f0, .int .u64 b.f1, .int .u64 b.f2, .int .u64 b.f3, .int .u64 b.f4, .slice A5b b.f5.length c5b, .slice A6b b.f6.length c6b, .slice A7b b.f7.length c7b, .slice A8b b.f8.length c8b] 30))
    have hx := fun i => X.out.cell i
    have Y := Aside0.mk (show Blk ((w.alloc (.cells #[.int .i64 a.f0, .int .u64 a.f1, .int .u64 a.f2, .int .u64 a.f3, .int .u64 a.f4, .slice A5a a.f5.length c5a, .slice A6a a.f6.length c6a, .slice A7a a.f7.length c7a, .slice A8a a.f8.length c8a] 30)).alloc (.cells #[.int .i64 b.f0, .int .u64 b.f1, .int .u64 b.f2, .int .u64 b.f3, .int .u64 b.f4, .slice A5b b.f5.length c5b, .slice A6b b.f6.length c6b, .slice A7b b.f7.length c7b, .slice A8b b.f8.length c8b] 30)) (w.heap.size + 1) #[.int .i64 b.f0, .int .u64 b.f1, .int .u64 b.f2, .int .u64 b.f3, .int .u64 b.f4, .slice A5b b.f5.length c5b, .slice A6b b.f6.length c6b, .slice A7b b.f7.length c7b, .slice A8b b.f8.length c8b] 30 by have := Blk.new (w.alloc (.cells #[.int .i64 a.f0, .int .u64 a.f1, .int .u64 a.f2, .int .u64 a.f3, .int .u64 a.f4, .slice A5a a.f5.length c5a, .slice A6a a.f6.length c6a, .slice A7a a.f7.length c7a, .slice A8a a.f8.length c8a] 30)) #[.int .i64 b.f0, .int .u64 b.f1, .int .u64 b.f2, .int .u64 b.f3, .int .u64 b.f4, .slice A5b b.f5.length c5b, .slice A6b b.f6.length c6b, .slice A7b b.f7.length c7b, .slice A8b b.f8.length c8b] 30; simpa using this)
    have hy := fun i => Y.out.cell i
    have HA := Aside0.mk (hua.below B.out)
    have HB := Aside0.mk (hub.below B.out)
    clear hua hub
    go_enter Try.func9, Try.ntmps9
    go_wp2_with (first | (go_at_call 14; (with_reducible refine (CS.out _ _ HA.out).mono ?_); rintro e W1 ⟨rfl, hb⟩; replace B := Aside0.mk (below_then B.out B.out.size hb); replace HA := Aside0.mk (HA.out.below hb); replace HB := Aside0.mk (HB.out.below hb); replace X := Aside0.mk (X.out.below hb); replace hx := fun i => X.out.cell i; replace Y := Aside0.mk (Y.out.below hb); replace hy := fun i => Y.out.cell i; clear  hb) | (go_at_call 14; (with_reducible refine (CT.out _ _ HB.out).mono ?_); rintro e W2 ⟨rfl, hb⟩; replace B := Aside0.mk (below_then B.out B.out.size hb); replace HA := Aside0.mk (HA.out.below hb); replace HB := Aside0.mk (HB.out.below hb); replace X := Aside0.mk (X.out.below hb); replace hx := fun i => X.out.cell i; replace Y := Aside0.mk (Y.out.below hb); replace hy := fun i => Y.out.cell i; clear  hb) | (go_at_call 31; (with_reducible refine (K1.out _ _ _ HA.out HB.out).mono ?_); rintro e W3 ⟨rfl, hb⟩; replace B := Aside0.mk (below_then B.out B.out.size hb); replace HA := Aside0.mk (HA.out.below hb); replace HB := Aside0.mk (HB.out.below hb); replace X := Aside0.mk (X.out.below hb); replace hx := fun i => X.out.cell i; replace Y := Aside0.mk (Y.out.below hb); replace hy := fun i => Y.out.cell i; have hxa := fun i => (X.out.alloc (.cells #[.int .i64 v1, .int .i64 v2] 70)).cell i; have hya := fun i => (Y.out.alloc (.cells #[.int .i64 v1, .int .i64 v2] 70)).cell i; clear  hb))
    (try clear hxa hya)
    have hal := below_alloc (Below.refl W3.heap.size W3) (.cells #[.int .i64 v1, .int .i64 v2] 70)
    replace B := Aside0.mk (below_then B.out B.out.size hal)
    replace HA := Aside0.mk (HA.out.below hal)
    replace HB := Aside0.mk (HB.out.below hal)
    replace X := Aside0.mk (X.out.alloc (.cells #[.int .i64 v1, .int .i64 v2] 70)); replace hx := fun i => X.out.cell i
    replace Y := Aside0.mk (Y.out.alloc (.cells #[.int .i64 v1, .int .i64 v2] 70)); replace hy := fun i => Y.out.cell i
    have P := Aside0.mk (Blk.new W3 #[.int .i64 v1, .int .i64 v2] 70); have hp := fun i => P.out.cell i; clear hal
    go_wp2_with (first | (go_at_call 15; (with_reducible refine (N1.out _ _ HA.out).mono ?_); rintro e W4 ⟨D5x, g5x, D6x, g6x, D7x, g7x, D8x, g8x, rfl, hh, hb⟩; replace B := Aside0.mk (below_then B.out B.out.size hb); replace HA := Aside0.mk (HA.out.below hb); replace HB := Aside0.mk (HB.out.below hb); replace X := Aside0.mk (X.out.below hb); replace hx := fun i => X.out.cell i; replace Y := Aside0.mk (Y.out.below hb); replace hy := fun i => Y.out.cell i; replace P := Aside0.mk (P.out.below hb); replace hp := fun i => P.out.cell i; have HX := Aside0.mk hh; have hxa := fun i => (X.out.alloc (.cells #[.int .i64 x.f0, .int .u64 x.f1, .int .u64 x.f2, .int .u64 x.f3, .int .u64 x.f4, .slice D5x x.f5.length g5x, .slice D6x x.f6.length g6x, .slice D7x x.f7.length g7x, .slice D8x x.f8.length g8x] 30)).cell i; have hya := fun i => (Y.out.alloc (.cells #[.int .i64 x.f0, .int .u64 x.f1, .int .u64 x.f2, .int .u64 x.f3, .int .u64 x.f4, .slice D5x x.f5.length g5x, .slice D6x x.f6.length g6x, .slice D7x x.f7.length g7x, .slice D8x x.f8.length g8x] 30)).cell i; have hpa := fun i => (P.out.alloc (.cells #[.int .i64 x.f0, .int .u64 x.f1, .int .u64 x.f2, .int .u64 x.f3, .int .u64 x.f4, .slice D5x x.f5.length g5x, .slice D6x x.f6.length g6x, .slice D7x x.f7.length g7x, .slice D8x x.f8.length g8x] 30)).cell i; clear hh hb))
    (try clear hxa hya hpa)
    have hal := below_alloc (Below.refl W4.heap.size W4) (.cells #[.int .i64 x.f0, .int .u64 x.f1, .int .u64 x.f2, .int .u64 x.f3, .int .u64 x.f4, .slice D5x x.f5.length g5x, .slice D6x x.f6.length g6x, .slice D7x x.f7.length g7x, .slice D8x x.f8.length g8x] 30)
    replace B := Aside0.mk (below_then B.out B.out.size hal)
    replace HA := Aside0.mk (HA.out.below hal)
    replace HB := Aside0.mk (HB.out.below hal)
    replace HX := Aside0.mk (HX.out.below hal)
    replace X := Aside0.mk (X.out.alloc (.cells #[.int .i64 x.f0, .int .u64 x.f1, .int .u64 x.f2, .int .u64 x.f3, .int .u64 x.f4, .slice D5x x.f5.length g5x, .slice D6x x.f6.length g6x, .slice D7x x.f7.length g7x, .slice D8x x.f8.length g8x] 30)); replace hx := fun i => X.out.cell i
    replace Y := Aside0.mk (Y.out.alloc (.cells #[.int .i64 x.f0, .int .u64 x.f1, .int .u64 x.f2, .int .u64 x.f3, .int .u64 x.f4, .slice D5x x.f5.length g5x, .slice D6x x.f6.length g6x, .slice D7x x.f7.length g7x, .slice D8x x.f8.length g8x] 30)); replace hy := fun i => Y.out.cell i
    replace P := Aside0.mk (P.out.alloc (.cells #[.int .i64 x.f0, .int .u64 x.f1, .int .u64 x.f2, .int .u64 x.f3, .int .u64 x.f4, .slice D5x x.f5.length g5x, .slice D6x x.f6.length g6x, .slice D7x x.f7.length g7x, .slice D8x x.f8.length g8x] 30)); replace hp := fun i => P.out.cell i
    have Q := Aside0.mk (Blk.new W4 #[.int .i64 x.f0, .int .u64 x.f1, .int .u64 x.f2, .int .u64 x.f3, .int .u64 x.f4, .slice D5x x.f5.length g5x, .slice D6x x.f6.length g6x, .slice D7x x.f7.length g7x, .slice D8x x.f8.length g8x] 30); have hq := fun i => Q.out.cell i; clear hal
    go_wp2_with (first | (go_at_call 15; (with_reducible refine (N2.out _ _ HB.out).mono ?_); rintro e W5 ⟨D5y, g5y, D6y, g6y, D7y, g7y, D8y, g8y, rfl, hh, hb⟩; replace B := Aside0.mk (below_then B.out B.out.size hb); replace HA := Aside0.mk (HA.out.below hb); replace HB := Aside0.mk (HB.out.below hb); replace HX := Aside0.mk (HX.out.below hb); replace X := Aside0.mk (X.out.below hb); replace hx := fun i => X.out.cell i; replace Y := Aside0.mk (Y.out.below hb); replace hy := fun i => Y.out.cell i; replace P := Aside0.mk (P.out.below hb); replace hp := fun i => P.out.cell i; replace Q := Aside0.mk (Q.out.below hb); replace hq := fun i => Q.out.cell i; have HY := Aside0.mk hh; have hxa := fun i => (X.out.alloc (.cells #[.int .i64 y.f0, .int .u64 y.f1, .int .u64 y.f2, .int .u64 y.f3, .int .u64 y.f4, .slice D5y y.f5.length g5y, .slice D6y y.f6.length g6y, .slice D7y y.f7.length g7y, .slice D8y y.f8.length g8y] 30)).cell i; have hya := fun i => (Y.out.alloc (.cells #[.int .i64 y.f0, .int .u64 y.f1, .int .u64 y.f2, .int .u64 y.f3, .int .u64 y.f4, .slice D5y y.f5.length g5y, .slice D6y y.f6.length g6y, .slice D7y y.f7.length g7y, .slice D8y y.f8.length g8y] 30)).cell i; have hpa := fun i => (P.out.alloc (.cells #[.int .i64 y.f0, .int .u64 y.f1, .int .u64 y.f2, .int .u64 y.f3, .int .u64 y.f4, .slice D5y y.f5.length g5y, .slice D6y y.f6.length g6y, .slice D7y y.f7.length g7y, .slice D8y y.f8.length g8y] 30)).cell i; have hqa := fun i => (Q.out.alloc (.cells #[.int .i64 y.f0, .int .u64 y.f1, .int .u64 y.f2, .int .u64 y.f3, .int .u64 y.f4, .slice D5y y.f5.length g5y, .slice D6y y.f6.length g6y, .slice D7y y.f7.length g7y, .slice D8y y.f8.length g8y] 30)).cell i; clear hh hb))
    (try clear hxa hya hpa hqa)
    have hal := below_alloc (Below.refl W5.heap.size W5) (.cells #[.int .i64 y.f0, .int .u64 y.f1, .int .u64 y.f2, .int .u64 y.f3, .int .u64 y.f4, .slice D5y y.f5.length g5y, .slice D6y y.f6.length g6y, .slice D7y y.f7.length g7y, .slice D8y y.f8.length g8y] 30)
    replace B := Aside0.mk (below_then B.out B.out.size hal)
    replace HA := Aside0.mk (HA.out.below hal)
    replace HB := Aside0.mk (HB.out.below hal)
    replace HX := Aside0.mk (HX.out.below hal)
    replace HY := Aside0.mk (HY.out.below hal)
    replace X := Aside0.mk (X.out.alloc (.cells #[.int .i64 y.f0, .int .u64 y.f1, .int .u64 y.f2, .int .u64 y.f3, .int .u64 y.f4, .slice D5y y.f5.length g5y, .slice D6y y.f6.length g6y, .slice D7y y.f7.length g7y, .slice D8y y.f8.length g8y] 30)); replace hx := fun i => X.out.cell i
    replace Y := Aside0.mk (Y.out.alloc (.cells #[.int .i64 y.f0, .int .u64 y.f1, .int .u64 y.f2, .int .u64 y.f3, .int .u64 y.f4, .slice D5y y.f5.length g5y, .slice D6y y.f6.length g6y, .slice D7y y.f7.length g7y, .slice D8y y.f8.length g8y] 30)); replace hy := fun i => Y.out.cell i
    replace P := Aside0.mk (P.out.alloc (.cells #[.int .i64 y.f0, .int .u64 y.f1, .int .u64 y.f2, .int .u64 y.f3, .int .u64 y.f4, .slice D5y y.f5.length g5y, .slice D6y y.f6.length g6y, .slice D7y y.f7.length g7y, .slice D8y y.f8.length g8y] 30)); replace hp := fun i => P.out.cell i
    replace Q := Aside0.mk (Q.out.alloc (.cells #[.int .i64 y.f0, .int .u64 y.f1, .int .u64 y.f2, .int .u64 y.f3, .int .u64 y.f4, .slice D5y y.f5.length g5y, .slice D6y y.f6.length g6y, .slice D7y y.f7.length g7y, .slice D8y y.f8.length g8y] 30)); replace hq := fun i => Q.out.cell i
    have R := Aside0.mk (Blk.new W5 #[.int .i64 y.f0, .int .u64 y.f1, .int .u64 y.f2, .int .u64 y.f3, .int .u64 y.f4, .slice D5y y.f5.length g5y, .slice D6y y.f6.length g6y, .slice D7y y.f7.length g7y, .slice D8y y.f8.length g8y] 30); have hr := fun i => R.out.cell i; clear hal
    go_wp2_with (first | (go_at_call 13; (with_reducible refine (awake25_c _).mono ?_); rintro e W6 ⟨rfl, hb⟩; replace B := Aside0.mk (below_then B.out B.out.size hb); replace HA := Aside0.mk (HA.out.below hb); replace HB := Aside0.mk (HB.out.below hb); replace HX := Aside0.mk (HX.out.below hb); replace HY := Aside0.mk (HY.out.below hb); replace X := Aside0.mk (X.out.below hb); replace hx := fun i => X.out.cell i; replace Y := Aside0.mk (Y.out.below hb); replace hy := fun i => Y.out.cell i; replace P := Aside0.mk (P.out.below hb); replace hp := fun i => P.out.cell i; replace Q := Aside0.mk (Q.out.below hb); replace hq := fun i => Q.out.cell i; replace R := Aside0.mk (R.out.below hb); replace hr := fun i => R.out.cell i; clear  hb))
    go_ret
    exact ⟨rfl, B.out⟩
  subst c2
  by_cases c3 : g = 0
  rotate_left
  · have d1 : (g != 0) = true := bne_iff_ne.2 c3
    clear c3 hg
    obtain ⟨A5a, c5a, A6a, c6a, A7a, c7a, A8a, c8a, e, -⟩ := hua.open_
    subst e
    obtain ⟨A5b, c5b, A6b, c6b, A7b, c7b, A8b, c8b, e, -⟩ := hub.open_
    subst e
    have B := Aside0.mk (below_alloc (below_alloc (Below.refl w.heap.size w) (.cells #[.int .i64 a.f0, .int .u64 a.f1, .int .u64 a.f2, .int .u64 a.f3, .int .u64 a.f4, .slice A5a a.f5.length c5a, .slice A6a a.f6.length c6a, .slice A7a a.f7.length c7a, .slice A8a a.f8.length c8a] 30)) (.cells #[.int .i64 b.f0, .int .u64 b.f1, .int .u64 b.f2, .int .u64 b.f3, .int .u64 b.f4, .slice A5b b.f5.length c5b, .slice A6b b.f6.length c6b, .slice A7b b.f7.length c7b, .slice A8b b.f8.length c8b] 30))
    have X := Aside0.mk ((Blk.new w #[.int .i64 a.f0, .int .u64 a.f1, .int .u64 a.f2, .int .u64 a.f3, .int .u64 a.f4, .slice A5a a.f5.length c5a, .slice A6a a.f6.length c6a, .slice A7a a.f7.length c7a, .slice A8a a.f8.length c8a] 30).alloc (.cells #[.int .i64 b.f0, .int .u64 b.f1, .int .u64 b.f2, .int .u64 b.f3, .int .u64 b.f4, .slice A5b b.f5.length c5b, .slice A6b b.f6.length c6b, .slice A7b b.f7.length c7b, .slice A8b b.f8.length c8b] 30))
    have hx := fun i => X.out.cell i
    have Y := Aside0.mk (show Blk ((w.alloc (.cells #[.int .i64 a.f0, .int .u64 a.f1, .int .u64 a.f2, .int .u64 a.f3, .int .u64 a.f4, .slice A5a a.f5.length c5a, .slice A6a a.f6.length c6a, .slice A7a a.f7.length c7a, .slice A8a a.f8.length c8a] 30)).alloc (.cells #[.int .i64 b.f0, .int .u64 b.f1, .int .u64 b.f2, .int .u64 b.f3, .int .u64 b.f4, .slice A5b b.f5.length c5b, .slice A6b b.f6.length c6b, .slice A7b b.f7.length c7b, .slice A8b b.f8.length c8b] 30)) (w.heap.size + 1) #[.int .i64 b.f0, .int .u64 b.f1, .int .u64 b.f2, .int .u64 b.f3, .int .u64 b.f4, .slice A5b b.f5.length c5b, .slice A6b b.f6.length c6b, .slice A7b b.f7.length c7b, .slice A8b b.f8.length c8b] 30 by have := Blk.new (w.alloc (.cells #[.int .i64 a.f0, .int .u64 a.f1, .int .u64 a.f2, .int .u64 a.f3, .int .u64 a.f4, .slice A5a a.f5.length c5a, .slice A6a a.f6.length c6a, .slice A7a a.f7.length c7a, .slice A8a a.f8.length c8a] 30)) #[.int .i64 b.f0, .int .u64 b.f1, .int .u64 b.f2, .int .u64 b.f3, .int .u64 b.f4, .slice A5b b.f5.length c5b, .slice A6b b.f6.length c6b, .slice A7b b.f7.length c7b, .slice A8b b.f8.length c8b] 30; simpa using this)
    have hy := fun i => Y.out.cell i
    have HA := Aside0.mk (hua.below B.out)
    have HB := Aside0.mk (hub.below B.out)
    clear hua hub
    go_enter Try.func9, Try.ntmps9
    go_wp2_with (first | (go_at_call 14; (with_reducible refine (CS.out _ _ HA.out).mono ?_); rintro e W1 ⟨rfl, hb⟩; replace B := Aside0.mk (below_then B.out B.out.size hb); replace HA := Aside0.mk (HA.out.below hb); replace HB := Aside0.mk (HB.out.below hb); replace X := Aside0.mk (X.out.below hb); replace hx := fun i => X.out.cell i; replace Y := Aside0.mk (Y.out.below hb); replace hy := fun i => Y.out.cell i; clear  hb) | (go_at_call 14; (with_reducible refine (CT.out _ _ HB.out).mono ?_); rintro e W2 ⟨rfl, hb⟩; replace B := Aside0.mk (below_then B.out B.out.size hb); replace HA := Aside0.mk (HA.out.below hb); replace HB := Aside0.mk (HB.out.below hb); replace X := Aside0.mk (X.out.below hb); replace hx := fun i => X.out.cell i; replace Y := Aside0.mk (Y.out.below hb); replace hy := fun i => Y.out.cell i; clear  hb) | (go_at_call 31; (with_reducible refine (K1.out _ _ _ HA.out HB.out).mono ?_); rintro e W3 ⟨rfl, hb⟩; replace B := Aside0.mk (below_then B.out B.out.size hb); replace HA := Aside0.mk (HA.out.below hb); replace HB := Aside0.mk (HB.out.below hb); replace X := Aside0.mk (X.out.below hb); replace hx := fun i => X.out.cell i; replace Y := Aside0.mk (Y.out.below hb); replace hy := fun i => Y.out.cell i; have hxa := fun i => (X.out.alloc (.cells #[.int .i64 v1, .int .i64 v2] 70)).cell i; have hya := fun i => (Y.out.alloc (.cells #[.int .i64 v1, .int .i64 v2] 70)).cell i; clear  hb))
    (try clear hxa hya)
    have hal := below_alloc (Below.refl W3.heap.size W3) (.cells #[.int .i64 v1, .int .i64 v2] 70)
    replace B := Aside0.mk (below_then B.out B.out.size hal)
    replace HA := Aside0.mk (HA.out.below hal)
    replace HB := Aside0.mk (HB.out.below hal)
    replace X := Aside0.mk (X.out.alloc (.cells #[.int .i64 v1, .int .i64 v2] 70)); replace hx := fun i => X.out.cell i
    replace Y := Aside0.mk (Y.out.alloc (.cells #[.int .i64 v1, .int .i64 v2] 70)); replace hy := fun i => Y.out.cell i
    have P := Aside0.mk (Blk.new W3 #[.int .i64 v1, .int .i64 v2] 70); have hp := fun i => P.out.cell i; clear hal
    go_wp2_with (first | (go_at_call 15; (with_reducible refine (N1.out _ _ HA.out).mono ?_); rintro e W4 ⟨D5x, g5x, D6x, g6x, D7x, g7x, D8x, g8x, rfl, hh, hb⟩; replace B := Aside0.mk (below_then B.out B.out.size hb); replace HA := Aside0.mk (HA.out.below hb); replace HB := Aside0.mk (HB.out.below hb); replace X := Aside0.mk (X.out.below hb); replace hx := fun i => X.out.cell i; replace Y := Aside0.mk (Y.out.below hb); replace hy := fun i => Y.out.cell i; replace P := Aside0.mk (P.out.below hb); replace hp := fun i => P.out.cell i; have HX := Aside0.mk hh; have hxa := fun i => (X.out.alloc (.cells #[.int .i64 x.f0, .int .u64 x.f1, .int .u64 x.f2, .int .u64 x.f3, .int .u64 x.f4, .slice D5x x.f5.length g5x, .slice D6x x.f6.length g6x, .slice D7x x.f7.length g7x, .slice D8x x.f8.length g8x] 30)).cell i; have hya := fun i => (Y.out.alloc (.cells #[.int .i64 x.f0, .int .u64 x.f1, .int .u64 x.f2, .int .u64 x.f3, .int .u64 x.f4, .slice D5x x.f5.length g5x, .slice D6x x.f6.length g6x, .slice D7x x.f7.length g7x, .slice D8x x.f8.length g8x] 30)).cell i; have hpa := fun i => (P.out.alloc (.cells #[.int .i64 x.f0, .int .u64 x.f1, .int .u64 x.f2, .int .u64 x.f3, .int .u64 x.f4, .slice D5x x.f5.length g5x, .slice D6x x.f6.length g6x, .slice D7x x.f7.length g7x, .slice D8x x.f8.length g8x] 30)).cell i; clear hh hb))
    (try clear hxa hya hpa)
    have hal := below_alloc (Below.refl W4.heap.size W4) (.cells #[.int .i64 x.f0, .int .u64 x.f1, .int .u64 x.f2, .int .u64 x.f3, .int .u64 x.f4, .slice D5x x.f5.length g5x, .slice D6x x.f6.length g6x, .slice D7x x.f7.length g7x, .slice D8x x.f8.length g8x] 30)
    replace B := Aside0.mk (below_then B.out B.out.size hal)
    replace HA := Aside0.mk (HA.out.below hal)
    replace HB := Aside0.mk (HB.out.below hal)
    replace HX := Aside0.mk (HX.out.below hal)
    replace X := Aside0.mk (X.out.alloc (.cells #[.int .i64 x.f0, .int .u64 x.f1, .int .u64 x.f2, .int .u64 x.f3, .int .u64 x.f4, .slice D5x x.f5.length g5x, .slice D6x x.f6.length g6x, .slice D7x x.f7.length g7x, .slice D8x x.f8.length g8x] 30)); replace hx := fun i => X.out.cell i
    replace Y := Aside0.mk (Y.out.alloc (.cells #[.int .i64 x.f0, .int .u64 x.f1, .int .u64 x.f2, .int .u64 x.f3, .int .u64 x.f4, .slice D5x x.f5.length g5x, .slice D6x x.f6.length g6x, .slice D7x x.f7.length g7x, .slice D8x x.f8.length g8x] 30)); replace hy := fun i => Y.out.cell i
    replace P := Aside0.mk (P.out.alloc (.cells #[.int .i64 x.f0, .int .u64 x.f1, .int .u64 x.f2, .int .u64 x.f3, .int .u64 x.f4, .slice D5x x.f5.length g5x, .slice D6x x.f6.length g6x, .slice D7x x.f7.length g7x, .slice D8x x.f8.length g8x] 30)); replace hp := fun i => P.out.cell i
    have Q := Aside0.mk (Blk.new W4 #[.int .i64 x.f0, .int .u64 x.f1, .int .u64 x.f2, .int .u64 x.f3, .int .u64 x.f4, .slice D5x x.f5.length g5x, .slice D6x x.f6.length g6x, .slice D7x x.f7.length g7x, .slice D8x x.f8.length g8x] 30); have hq := fun i => Q.out.cell i; clear hal
    go_wp2_with (first | (go_at_call 15; (with_reducible refine (N2.out _ _ HB.out).mono ?_); rintro e W5 ⟨D5y, g5y, D6y, g6y, D7y, g7y, D8y, g8y, rfl, hh, hb⟩; replace B := Aside0.mk (below_then B.out B.out.size hb); replace HA := Aside0.mk (HA.out.below hb); replace HB := Aside0.mk (HB.out.below hb); replace HX := Aside0.mk (HX.out.below hb); replace X := Aside0.mk (X.out.below hb); replace hx := fun i => X.out.cell i; replace Y := Aside0.mk (Y.out.below hb); replace hy := fun i => Y.out.cell i; replace P := Aside0.mk (P.out.below hb); replace hp := fun i => P.out.cell i; replace Q := Aside0.mk (Q.out.below hb); replace hq := fun i => Q.out.cell i; have HY := Aside0.mk hh; have hxa := fun i => (X.out.alloc (.cells #[.int .i64 y.f0, .int .u64 y.f1, .int .u64 y.f2, .int .u64 y.f3, .int .u64 y.f4, .slice D5y y.f5.length g5y, .slice D6y y.f6.length g6y, .slice D7y y.f7.length g7y, .slice D8y y.f8.length g8y] 30)).cell i; have hya := fun i => (Y.out.alloc (.cells #[.int .i64 y.f0, .int .u64 y.f1, .int .u64 y.f2, .int .u64 y.f3, .int .u64 y.f4, .slice D5y y.f5.length g5y, .slice D6y y.f6.length g6y, .slice D7y y.f7.length g7y, .slice D8y y.f8.length g8y] 30)).cell i; have hpa := fun i => (P.out.alloc (.cells #[.int .i64 y.f0, .int .u64 y.f1, .int .u64 y.f2, .int .u64 y.f3, .int .u64 y.f4, .slice D5y y.f5.length g5y, .slice D6y y.f6.length g6y, .slice D7y y.f7.length g7y, .slice D8y y.f8.length g8y] 30)).cell i; have hqa := fun i => (Q.out.alloc (.cells #[.int .i64 y.f0, .int .u64 y.f1, .int .u64 y.f2, .int .u64 y.f3, .int .u64 y.f4, .slice D5y y.f5.length g5y, .slice D6y y.f6.length g6y, .slice D7y y.f7.length g7y, .slice D8y y.f8.length g8y] 30)).cell i; clear hh hb))
    (try clear hxa hya hpa hqa)
    have hal := below_alloc (Below.refl W5.heap.size W5) (.cells #[.int .i64 y.f0, .int .u64 y.f1, .int .u64 y.f2, .int .u64 y.f3, .int .u64 y.f4, .slice D5y y.f5.length g5y, .slice D6y y.f6.length g6y, .slice D7y y.f7.length g7y, .slice D8y y.f8.length g8y] 30)
    replace B := Aside0.mk (below_then B.out B.out.size hal)
    replace HA := Aside0.mk (HA.out.below hal)
    replace HB := Aside0.mk (HB.out.below hal)
    replace HX := Aside0.mk (HX.out.below hal)
    replace HY := Aside0.mk (HY.out.below hal)
    replace X := Aside0.mk (X.out.alloc (.cells #[.int .i64 y.f0, .int .u64 y.f1, .int .u64 y.f2, .int .u64 y.f3, .int .u64 y.f4, .slice D5y y.f5.length g5y, .slice D6y y.f6.length g6y, .slice D7y y.f7.length g7y, .slice D8y y.f8.length g8y] 30)); replace hx := fun i => X.out.cell i
    replace Y := Aside0.mk (Y.out.alloc (.cells #[.int .i64 y.f0, .int .u64 y.f1, .int .u64 y.f2, .int .u64 y.f3, .int .u64 y.f4, .slice D5y y.f5.length g5y, .slice D6y y.f6.length g6y, .slice D7y y.f7.length g7y, .slice D8y y.f8.length g8y] 30)); replace hy := fun i => Y.out.cell i
    replace P := Aside0.mk (P.out.alloc (.cells #[.int .i64 y.f0, .int .u64 y.f1, .int .u64 y.f2, .int .u64 y.f3, .int .u64 y.f4, .slice D5y y.f5.length g5y, .slice D6y y.f6.length g6y, .slice D7y y.f7.length g7y, .slice D8y y.f8.length g8y] 30)); replace hp := fun i => P.out.cell i
    replace Q := Aside0.mk (Q.out.alloc (.cells #[.int .i64 y.f0, .int .u64 y.f1, .int .u64 y.f2, .int .u64 y.f3, .int .u64 y.f4, .slice D5y y.f5.length g5y, .slice D6y y.f6.length g6y, .slice D7y y.f7.length g7y, .slice D8y y.f8.length g8y] 30)); replace hq := fun i => Q.out.cell i
    have R := Aside0.mk (Blk.new W5 #[.int .i64 y.f0, .int .u64 y.f1, .int .u64 y.f2, .int .u64 y.f3, .int .u64 y.f4, .slice D5y y.f5.length g5y, .slice D6y y.f6.length g6y, .slice D7y y.f7.length g7y, .slice D8y y.f8.length g8y] 30); have hr := fun i => R.out.cell i; clear hal
    go_wp2_with (first | (go_at_call 13; (with_reducible refine (awake25_c _).mono ?_); rintro e W6 ⟨rfl, hb⟩; replace B := Aside0.mk (below_then B.out B.out.size hb); replace HA := Aside0.mk (HA.out.below hb); replace HB := Aside0.mk (HB.out.below hb); replace HX := Aside0.mk (HX.out.below hb); replace HY := Aside0.mk (HY.out.below hb); replace X := Aside0.mk (X.out.below hb); replace hx := fun i => X.out.cell i; replace Y := Aside0.mk (Y.out.below hb); replace hy := fun i => Y.out.cell i; replace P := Aside0.mk (P.out.below hb); replace hp := fun i => P.out.cell i; replace Q := Aside0.mk (Q.out.below hb); replace hq := fun i => Q.out.cell i; replace R := Aside0.mk (R.out.below hb); replace hr := fun i => R.out.cell i; clear  hb))
    go_ret
    exact ⟨rfl, B.out⟩
  subst c3
  by_cases c4 : v1 = 0
  rotate_left
  · have d1 : (v1 != 0) = true := bne_iff_ne.2 c4
    clear c4 hg
    obtain ⟨A5a, c5a, A6a, c6a, A7a, c7a, A8a, c8a, e, -⟩ := hua.open_
    subst e
    obtain ⟨A5b, c5b, A6b, c6b, A7b, c7b, A8b, c8b, e, -⟩ := hub.open_
    subst e
    have B := Aside0.mk (below_alloc (below_alloc (Below.refl w.heap.size w) (.cells #[.int .i64 a.f0, .int .u64 a.f1, .int .u64 a.f2, .int .u64 a.f3, .int .u64 a.f4, .slice A5a a.f5.length c5a, .slice A6a a.f6.length c6a, .slice A7a a.f7.length c7a, .slice A8a a.f8.length c8a] 30)) (.cells #[.int .i64 b.f0, .int .u64 b.f1, .int .u64 b.f2, .int .u64 b.f3, .int .u64 b.f4, .slice A5b b.f5.length c5b, .slice A6b b.f6.length c6b, .slice A7b b.f7.length c7b, .slice A8b b.f8.length c8b] 30))
    have X := Aside0.mk ((Blk.new w #[.int .i64 a.f0, .int .u64 a.f1, .int .u64 a.f2, .int .u64 a.f3, .int .u64 a.f4, .slice A5a a.f5.length c5a, .slice A6a a.f6.length c6a, .slice A7a a.f7.length c7a, .slice A8a a.f8.length c8a] 30).alloc (.cells #[.int .i64 b.f0, .int .u64 b.f1, .int .u64 b.f2, .int .u64 b.f3, .int .u64 b.f4, .slice A5b b.f5.length c5b, .slice A6b b.f6.length c6b, .slice A7b b.f7.length c7b, .slice A8b b.f8.length c8b] 30))
    have hx := fun i => X.out.cell i
    have Y := Aside0.mk (show Blk ((w.alloc (.cells #[.int .i64 a.f0, .int .u64 a.f1, .int .u64 a.f2, .int .u64 a.f3, .int .u64 a.f4, .slice A5a a.f5.length c5a, .slice A6a a.f6.length c6a, .slice A7a a.f7.length c7a, .slice A8a a.f8.length c8a] 30)).alloc (.cells #[.int .i64 b.f0, .int .u64 b.f1, .int .u64 b.f2, .int .u64 b.f3, .int .u64 b.f4, .slice A5b b.f5.length c5b, .slice A6b b.f6.length c6b, .slice A7b b.f7.length c7b, .slice A8b b.f8.length c8b] 30)) (w.heap.size + 1) #[.int .i64 b.f0, .int .u64 b.f1, .int .u64 b.f2, .int .u64 b.f3, .int .u64 b.f4, .slice A5b b.f5.length c5b, .slice A6b b.f6.length c6b, .slice A7b b.f7.length c7b, .slice A8b b.f8.length c8b] 30 by have := Blk.new (w.alloc (.cells #[.int .i64 a.f0, .int .u64 a.f1, .int .u64 a.f2, .int .u64 a.f3, .int .u64 a.f4, .slice A5a a.f5.length c5a, .slice A6a a.f6.length c6a, .slice A7a a.f7.length c7a, .slice A8a a.f8.length c8a] 30)) #[.int .i64 b.f0, .int .u64 b.f1, .int .u64 b.f2, .int .u64 b.f3, .int .u64 b.f4, .slice A5b b.f5.length c5b, .slice A6b b.f6.length c6b, .slice A7b b.f7.length c7b, .slice A8b b.f8.length c8b] 30; simpa using this)
    have hy := fun i => Y.out.cell i
    have HA := Aside0.mk (hua.below B.out)
    have HB := Aside0.mk (hub.below B.out)
    clear hua hub
    go_enter Try.func9, Try.ntmps9
    go_wp2_with (first | (go_at_call 14; (with_reducible refine (CS.out _ _ HA.out).mono ?_); rintro e W1 ⟨rfl, hb⟩; replace B := Aside0.mk (below_then B.out B.out.size hb); replace HA := Aside0.mk (HA.out.below hb); replace HB := Aside0.mk (HB.out.below hb); replace X := Aside0.mk (X.out.below hb); replace hx := fun i => X.out.cell i; replace Y := Aside0.mk (Y.out.below hb); replace hy := fun i => Y.out.cell i; clear  hb) | (go_at_call 14; (with_reducible refine (CT.out _ _ HB.out).mono ?_); rintro e W2 ⟨rfl, hb⟩; replace B := Aside0.mk (below_then B.out B.out.size hb); replace HA := Aside0.mk (HA.out.below hb); replace HB := Aside0.mk (HB.out.below hb); replace X := Aside0.mk (X.out.below hb); replace hx := fun i => X.out.cell i; replace Y := Aside0.mk (Y.out.below hb); replace hy := fun i => Y.out.cell i; clear  hb) | (go_at_call 31; (with_reducible refine (K1.out _ _ _ HA.out HB.out).mono ?_); rintro e W3 ⟨rfl, hb⟩; replace B := Aside0.mk (below_then B.out B.out.size hb); replace HA := Aside0.mk (HA.out.below hb); replace HB := Aside0.mk (HB.out.below hb); replace X := Aside0.mk (X.out.below hb); replace hx := fun i => X.out.cell i; replace Y := Aside0.mk (Y.out.below hb); replace hy := fun i => Y.out.cell i; have hxa := fun i => (X.out.alloc (.cells #[.int .i64 v1, .int .i64 v2] 70)).cell i; have hya := fun i => (Y.out.alloc (.cells #[.int .i64 v1, .int .i64 v2] 70)).cell i; clear  hb))
    (try clear hxa hya)
    have hal := below_alloc (Below.refl W3.heap.size W3) (.cells #[.int .i64 v1, .int .i64 v2] 70)
    replace B := Aside0.mk (below_then B.out B.out.size hal)
    replace HA := Aside0.mk (HA.out.below hal)
    replace HB := Aside0.mk (HB.out.below hal)
    replace X := Aside0.mk (X.out.alloc (.cells #[.int .i64 v1, .int .i64 v2] 70)); replace hx := fun i => X.out.cell i
    replace Y := Aside0.mk (Y.out.alloc (.cells #[.int .i64 v1, .int .i64 v2] 70)); replace hy := fun i => Y.out.cell i
    have P := Aside0.mk (Blk.new W3 #[.int .i64 v1, .int .i64 v2] 70); have hp := fun i => P.out.cell i; clear hal
    go_wp2_with (first | (go_at_call 15; (with_reducible refine (N1.out _ _ HA.out).mono ?_); rintro e W4 ⟨D5x, g5x, D6x, g6x, D7x, g7x, D8x, g8x, rfl, hh, hb⟩; replace B := Aside0.mk (below_then B.out B.out.size hb); replace HA := Aside0.mk (HA.out.below hb); replace HB := Aside0.mk (HB.out.below hb); replace X := Aside0.mk (X.out.below hb); replace hx := fun i => X.out.cell i; replace Y := Aside0.mk (Y.out.below hb); replace hy := fun i => Y.out.cell i; replace P := Aside0.mk (P.out.below hb); replace hp := fun i => P.out.cell i; have HX := Aside0.mk hh; have hxa := fun i => (X.out.alloc (.cells #[.int .i64 x.f0, .int .u64 x.f1, .int .u64 x.f2, .int .u64 x.f3, .int .u64 x.f4, .slice D5x x.f5.length g5x, .slice D6x x.f6.length g6x, .slice D7x x.f7.length g7x, .slice D8x x.f8.length g8x] 30)).cell i; have hya := fun i => (Y.out.alloc (.cells #[.int .i64 x.f0, .int .u64 x.f1, .int .u64 x.f2, .int .u64 x.f3, .int .u64 x.f4, .slice D5x x.f5.length g5x, .slice D6x x.f6.length g6x, .slice D7x x.f7.length g7x, .slice D8x x.f8.length g8x] 30)).cell i; have hpa := fun i => (P.out.alloc (.cells #[.int .i64 x.f0, .int .u64 x.f1, .int .u64 x.f2, .int .u64 x.f3, .int .u64 x.f4, .slice D5x x.f5.length g5x, .slice D6x x.f6.length g6x, .slice D7x x.f7.length g7x, .slice D8x x.f8.length g8x] 30)).cell i; clear hh hb))
    (try clear hxa hya hpa)
    have hal := below_alloc (Below.refl W4.heap.size W4) (.cells #[.int .i64 x.f0, .int .u64 x.f1, .int .u64 x.f2, .int .u64 x.f3, .int .u64 x.f4, .slice D5x x.f5.length g5x, .slice D6x x.f6.length g6x, .slice D7x x.f7.length g7x, .slice D8x x.f8.length g8x] 30)
    replace B := Aside0.mk (below_then B.out B.out.size hal)
    replace HA := Aside0.mk (HA.out.below hal)
    replace HB := Aside0.mk (HB.out.below hal)
    replace HX := Aside0.mk (HX.out.below hal)
    replace X := Aside0.mk (X.out.alloc (.cells #[.int .i64 x.f0, .int .u64 x.f1, .int .u64 x.f2, .int .u64 x.f3, .int .u64 x.f4, .slice D5x x.f5.length g5x, .slice D6x x.f6.length g6x, .slice D7x x.f7.length g7x, .slice D8x x.f8.length g8x] 30)); replace hx := fun i => X.out.cell i
    replace Y := Aside0.mk (Y.out.alloc (.cells #[.int .i64 x.f0, .int .u64 x.f1, .int .u64 x.f2, .int .u64 x.f3, .int .u64 x.f4, .slice D5x x.f5.length g5x, .slice D6x x.f6.length g6x, .slice D7x x.f7.length g7x, .slice D8x x.f8.length g8x] 30)); replace hy := fun i => Y.out.cell i
    replace P := Aside0.mk (P.out.alloc (.cells #[.int .i64 x.f0, .int .u64 x.f1, .int .u64 x.f2, .int .u64 x.f3, .int .u64 x.f4, .slice D5x x.f5.length g5x, .slice D6x x.f6.length g6x, .slice D7x x.f7.length g7x, .slice D8x x.f8.length g8x] 30)); replace hp := fun i => P.out.cell i
    have Q := Aside0.mk (Blk.new W4 #[.int .i64 x.f0, .int .u64 x.f1, .int .u64 x.f2, .int .u64 x.f3, .int .u64 x.f4, .slice D5x x.f5.length g5x, .slice D6x x.f6.length g6x, .slice D7x x.f7.length g7x, .slice D8x x.f8.length g8x] 30); have hq := fun i => Q.out.cell i; clear hal
    go_wp2_with (first | (go_at_call 15; (with_reducible refine (N2.out _ _ HB.out).mono ?_); rintro e W5 ⟨D5y, g5y, D6y, g6y, D7y, g7y, D8y, g8y, rfl, hh, hb⟩; replace B := Aside0.mk (below_then B.out B.out.size hb); replace HA := Aside0.mk (HA.out.below hb); replace HB := Aside0.mk (HB.out.below hb); replace HX := Aside0.mk (HX.out.below hb); replace X := Aside0.mk (X.out.below hb); replace hx := fun i => X.out.cell i; replace Y := Aside0.mk (Y.out.below hb); replace hy := fun i => Y.out.cell i; replace P := Aside0.mk (P.out.below hb); replace hp := fun i => P.out.cell i; replace Q := Aside0.mk (Q.out.below hb); replace hq := fun i => Q.out.cell i; have HY := Aside0.mk hh; have hxa := fun i => (X.out.alloc (.cells #[.int .i64 y.f0, .int .u64 y.f1, .int .u64 y.f2, .int .u64 y.f3, .int .u64 y.f4, .slice D5y y.f5.length g5y, .slice D6y y.f6.length g6y, .slice D7y y.f7.length g7y, .slice D8y y.f8.length g8y] 30)).cell i; have hya := fun i => (Y.out.alloc (.cells #[.int .i64 y.f0, .int .u64 y.f1, .int .u64 y.f2, .int .u64 y.f3, .int .u64 y.f4, .slice D5y y.f5.length g5y, .slice D6y y.f6.length g6y, .slice D7y y.f7.length g7y, .slice D8y y.f8.length g8y] 30)).cell i; have hpa := fun i => (P.out.alloc (.cells #[.int .i64 y.f0, .int .u64 y.f1, .int .u64 y.f2, .int .u64 y.f3, .int .u64 y.f4, .slice D5y y.f5.length g5y, .slice D6y y.f6.length g6y, .slice D7y y.f7.length g7y, .slice D8y y.f8.length g8y] 30)).cell i; have hqa := fun i => (Q.out.alloc (.cells #[.int .i64 y.f0, .int .u64 y.f1, .int .u64 y.f2, .int .u64 y.f3, .int .u64 y.f4, .slice D5y y.f5.length g5y, .slice D6y y.f6.length g6y, .slice D7y y.f7.length g7y, .slice D8y y.f8.length g8y] 30)).cell i; clear hh hb))
    (try clear hxa hya hpa hqa)
    have hal := below_alloc (Below.refl W5.heap.size W5) (.cells #[.int .i64 y.f0, .int .u64 y.f1, .int .u64 y.f2, .int .u64 y.f3, .int .u64 y.f4, .slice D5y y.f5.length g5y, .slice D6y y.f6.length g6y, .slice D7y y.f7.length g7y, .slice D8y y.f8.length g8y] 30)
    replace B := Aside0.mk (below_then B.out B.out.size hal)
    replace HA := Aside0.mk (HA.out.below hal)
    replace HB := Aside0.mk (HB.out.below hal)
    replace HX := Aside0.mk (HX.out.below hal)
    replace HY := Aside0.mk (HY.out.below hal)
    replace X := Aside0.mk (X.out.alloc (.cells #[.int .i64 y.f0, .int .u64 y.f1, .int .u64 y.f2, .int .u64 y.f3, .int .u64 y.f4, .slice D5y y.f5.length g5y, .slice D6y y.f6.length g6y, .slice D7y y.f7.length g7y, .slice D8y y.f8.length g8y] 30)); replace hx := fun i => X.out.cell i
    replace Y := Aside0.mk (Y.out.alloc (.cells #[.int .i64 y.f0, .int .u64 y.f1, .int .u64 y.f2, .int .u64 y.f3, .int .u64 y.f4, .slice D5y y.f5.length g5y, .slice D6y y.f6.length g6y, .slice D7y y.f7.length g7y, .slice D8y y.f8.length g8y] 30)); replace hy := fun i => Y.out.cell i
    replace P := Aside0.mk (P.out.alloc (.cells #[.int .i64 y.f0, .int .u64 y.f1, .int .u64 y.f2, .int .u64 y.f3, .int .u64 y.f4, .slice D5y y.f5.length g5y, .slice D6y y.f6.length g6y, .slice D7y y.f7.length g7y, .slice D8y y.f8.length g8y] 30)); replace hp := fun i => P.out.cell i
    replace Q := Aside0.mk (Q.out.alloc (.cells #[.int .i64 y.f0, .int .u64 y.f1, .int .u64 y.f2, .int .u64 y.f3, .int .u64 y.f4, .slice D5y y.f5.length g5y, .slice D6y y.f6.length g6y, .slice D7y y.f7.length g7y, .slice D8y y.f8.length g8y] 30)); replace hq := fun i => Q.out.cell i
    have R := Aside0.mk (Blk.new W5 #[.int .i64 y.f0, .int .u64 y.f1, .int .u64 y.f2, .int .u64 y.f3, .int .u64 y.f4, .slice D5y y.f5.length g5y, .slice D6y y.f6.length g6y, .slice D7y y.f7.length g7y, .slice D8y y.f8.length g8y] 30); have hr := fun i => R.out.cell i; clear hal
    go_wp2_with (first | (go_at_call 13; (with_reducible refine (awake25_c _).mono ?_); rintro e W6 ⟨rfl, hb⟩; replace B := Aside0.mk (below_then B.out B.out.size hb); replace HA := Aside0.mk (HA.out.below hb); replace HB := Aside0.mk (HB.out.below hb); replace HX := Aside0.mk (HX.out.below hb); replace HY := Aside0.mk (HY.out.below hb); replace X := Aside0.mk (X.out.below hb); replace hx := fun i => X.out.cell i; replace Y := Aside0.mk (Y.out.below hb); replace hy := fun i => Y.out.cell i; replace P := Aside0.mk (P.out.below hb); replace hp := fun i => P.out.cell i; replace Q := Aside0.mk (Q.out.below hb); replace hq := fun i => Q.out.cell i; replace R := Aside0.mk (R.out.below hb); replace hr := fun i => R.out.cell i; clear  hb))
    go_ret
    exact ⟨rfl, B.out⟩
  have d4 : (v1 != 0) = false := by rw [c4]; rfl
  obtain ⟨wx, wy, hxy⟩ := hg rfl c4 rfl rfl
  have k2 := resetI_c x y wx wy
  rw [hxy] at k2
  have K2 := Aside0.mk k2
  clear wx wy hxy k2 hg c4
  obtain ⟨A5a, c5a, A6a, c6a, A7a, c7a, A8a, c8a, e, -⟩ := hua.open_
  subst e
  obtain ⟨A5b, c5b, A6b, c6b, A7b, c7b, A8b, c8b, e, -⟩ := hub.open_
  subst e
  have B := Aside0.mk (below_alloc (below_alloc (Below.refl w.heap.size w) (.cells #[.int .i64 a.f0, .int .u64 a.f1, .int .u64 a.f2, .int .u64 a.f3, .int .u64 a.f4, .slice A5a a.f5.length c5a, .slice A6a a.f6.length c6a, .slice A7a a.f7.length c7a, .slice A8a a.f8.length c8a] 30)) (.cells #[.int .i64 b.f0, .int .u64 b.f1, .int .u64 b.f2, .int .u64 b.f3, .int .u64 b.f4, .slice A5b b.f5.length c5b, .slice A6b b.f6.length c6b, .slice A7b b.f7.length c7b, .slice A8b b.f8.length c8b] 30))
  have X := Aside0.mk ((Blk.new w #[.int .i64 a.f0, .int .u64 a.f1, .int .u64 a.f2, .int .u64 a.f3, .int .u64 a.f4, .slice A5a a.f5.length c5a, .slice A6a a.f6.length c6a, .slice A7a a.f7.length c7a, .slice A8a a.f8.length c8a] 30).alloc (.cells #[.int .i64 b.f0, .int .u64 b.f1, .int .u64 b.f2, .int .u64 b.f3, .int .u64 b.f4, .slice A5b b.f5.length c5b, .slice A6b b.f6.length c6b, .slice A7b b.f7.length c7b, .slice A8b b.f8.length c8b] 30))
  have hx := fun i => X.out.cell i
  have Y := Aside0.mk (show Blk ((w.alloc (.cells #[.int .i64 a.f0, .int .u64 a.f1, .int .u64 a.f2, .int .u64 a.f3, .int .u64 a.f4, .slice A5a a.f5.length c5a, .slice A6a a.f6.length c6a, .slice A7a a.f7.length c7a, .slice A8a a.f8.length c8a] 30)).alloc (.cells #[.int .i64 b.f0, .int .u64 b.f1, .int .u64 b.f2, .int .u64 b.f3, .int .u64 b.f4, .slice A5b b.f5.length c5b, .slice A6b b.f6.length c6b, .slice A7b b.f7.length c7b, .slice A8b b.f8.length c8b] 30)) (w.heap.size + 1) #[.int .i64 b.f0, .int .u64 b.f1, .int .u64 b.f2, .int .u64 b.f3, .int .u64 b.f4, .slice A5b b.f5.length c5b, .slice A6b b.f6.length c6b, .slice A7b b.f7.length c7b, .slice A8b b.f8.length c8b] 30 by have := Blk.new (w.alloc (.cells #[.int .i64 a.f0, .int .u64 a.f1, .int .u64 a.f2, .int .u64 a.f3, .int .u64 a.f4, .slice A5a a.f5.length c5a, .slice A6a a.f6.length c6a, .slice A7a a.f7.length c7a, .slice A8a a.f8.length c8a] 30)) #[.int .i64 b.f0, .int .u64 b.f1, .int .u64 b.f2, .int .u64 b.f3, .int .u64 b.f4, .slice A5b b.f5.length c5b, .slice A6b b.f6.length c6b, .slice A7b b.f7.length c7b, .slice A8b b.f8.length c8b] 30; simpa using this)
  have hy := fun i => Y.out.cell i
  have HA := Aside0.mk (hua.below B.out)
  have HB := Aside0.mk (hub.below B.out)
  clear hua hub
  go_enter Try.func9, Try.ntmps9
  go_wp2_with (first | (go_at_call 14; (with_reducible refine (CS.out _ _ HA.out).mono ?_); rintro e W1 ⟨rfl, hb⟩; replace B := Aside0.mk (below_then B.out B.out.size hb); replace HA := Aside0.mk (HA.out.below hb); replace HB := Aside0.mk (HB.out.below hb); replace X := Aside0.mk (X.out.below hb); replace hx := fun i => X.out.cell i; replace Y := Aside0.mk (Y.out.below hb); replace hy := fun i => Y.out.cell i; clear  hb) | (go_at_call 14; (with_reducible refine (CT.out _ _ HB.out).mono ?_); rintro e W2 ⟨rfl, hb⟩; replace B := Aside0.mk (below_then B.out B.out.size hb); replace HA := Aside0.mk (HA.out.below hb); replace HB := Aside0.mk (HB.out.below hb); replace X := Aside0.mk (X.out.below hb); replace hx := fun i => X.out.cell i; replace Y := Aside0.mk (Y.out.below hb); replace hy := fun i => Y.out.cell i; clear  hb) | (go_at_call 31; (with_reducible refine (K1.out _ _ _ HA.out HB.out).mono ?_); rintro e W3 ⟨rfl, hb⟩; replace B := Aside0.mk (below_then B.out B.out.size hb); replace HA := Aside0.mk (HA.out.below hb); replace HB := Aside0.mk (HB.out.below hb); replace X := Aside0.mk (X.out.below hb); replace hx := fun i => X.out.cell i; replace Y := Aside0.mk (Y.out.below hb); replace hy := fun i => Y.out.cell i; have hxa := fun i => (X.out.alloc (.cells #[.int .i64 v1, .int .i64 v2] 70)).cell i; have hya := fun i => (Y.out.alloc (.cells #[.int .i64 v1, .int .i64 v2] 70)).cell i; clear  hb))
  (try clear hxa hya)
  have hal := below_alloc (Below.refl W3.heap.size W3) (.cells #[.int .i64 v1, .int .i64 v2] 70)
  replace B := Aside0.mk (below_then B.out B.out.size hal)
  replace HA := Aside0.mk (HA.out.below hal)
  replace HB := Aside0.mk (HB.out.below hal)
  replace X := Aside0.mk (X.out.alloc (.cells #[.int .i64 v1, .int .i64 v2] 70)); replace hx := fun i => X.out.cell i
  replace Y := Aside0.mk (Y.out.alloc (.cells #[.int .i64 v1, .int .i64 v2] 70)); replace hy := fun i => Y.out.cell i
  have P := Aside0.mk (Blk.new W3 #[.int .i64 v1, .int .i64 v2] 70); have hp := fun i => P.out.cell i; clear hal
  go_wp2_with (first | (go_at_call 15; (with_reducible refine (N1.out _ _ HA.out).mono ?_); rintro e W4 ⟨D5x, g5x, D6x, g6x, D7x, g7x, D8x, g8x, rfl, hh, hb⟩; replace B := Aside0.mk (below_then B.out B.out.size hb); replace HA := Aside0.mk (HA.out.below hb); replace HB := Aside0.mk (HB.out.below hb); replace X := Aside0.mk (X.out.below hb); replace hx := fun i => X.out.cell i; replace Y := Aside0.mk (Y.out.below hb); replace hy := fun i => Y.out.cell i; replace P := Aside0.mk (P.out.below hb); replace hp := fun i => P.out.cell i; have HX := Aside0.mk hh; have hxa := fun i => (X.out.alloc (.cells #[.int .i64 x.f0, .int .u64 x.f1, .int .u64 x.f2, .int .u64 x.f3, .int .u64 x.f4, .slice D5x x.f5.length g5x, .slice D6x x.f6.length g6x, .slice D7x x.f7.length g7x, .slice D8x x.f8.length g8x] 30)).cell i; have hya := fun i => (Y.out.alloc (.cells #[.int .i64 x.f0, .int .u64 x.f1, .int .u64 x.f2, .int .u64 x.f3, .int .u64 x.f4, .slice D5x x.f5.length g5x, .slice D6x x.f6.length g6x, .slice D7x x.f7.length g7x, .slice D8x x.f8.length g8x] 30)).cell i; have hpa := fun i => (P.out.alloc (.cells #[.int .i64 x.f0, .int .u64 x.f1, .int .u64 x.f2, .int .u64 x.f3, .int .u64 x.f4, .slice D5x x.f5.length g5x, .slice D6x x.f6.length g6x, .slice D7x x.f7.length g7x, .slice D8x x.f8.length g8x] 30)).cell i; clear hh hb))
  (try clear hxa hya hpa)
  have hal := below_alloc (Below.refl W4.heap.size W4) (.cells #[.int .i64 x.f0, .int .u64 x.f1, .int .u64 x.f2, .int .u64 x.f3, .int .u64 x.f4, .slice D5x x.f5.length g5x, .slice D6x x.f6.length g6x, .slice D7x x.f7.length g7x, .slice D8x x.f8.length g8x] 30)
  replace B := Aside0.mk (below_then B.out B.out.size hal)
  replace HA := Aside0.mk (HA.out.below hal)
  replace HB := Aside0.mk (HB.out.below hal)
  replace HX := Aside0.mk (HX.out.below hal)
  replace X := Aside0.mk (X.out.alloc (.cells #[.int .i64 x.f0, .int .u64 x.f1, .int .u64 x.f2, .int .u64 x.f3, .int .u64 x.f4, .slice D5x x.f5.length g5x, .slice D6x x.f6.length g6x, .slice D7x x.f7.length g7x, .slice D8x x.f8.length g8x] 30)); replace hx := fun i => X.out.cell i
  replace Y := Aside0.mk (Y.out.alloc (.cells #[.int .i64 x.f0, .int .u64 x.f1, .int .u64 x.f2, .int .u64 x.f3, .int .u64 x.f4, .slice D5x x.f5.length g5x, .slice D6x x.f6.length g6x, .slice D7x x.f7.length g7x, .slice D8x x.f8.length g8x] 30)); replace hy := fun i => Y.out.cell i
  replace P := Aside0.mk (P.out.alloc (.cells #[.int .i64 x.f0, .int .u64 x.f1, .int .u64 x.f2, .int .u64 x.f3, .int .u64 x.f4, .slice D5x x.f5.length g5x, .slice D6x x.f6.length g6x, .slice D7x x.f7.length g7x, .slice D8x x.f8.length g8x] 30)); replace hp := fun i => P.out.cell i
  have Q := Aside0.mk (Blk.new W4 #[.int .i64 x.f0, .int .u64 x.f1, .int .u64 x.f2, .int .u64 x.f3, .int .u64 x.f4, .slice D5x x.f5.length g5x, .slice D6x x.f6.length g6x, .slice D7x x.f7.length g7x, .slice D8x x.f8.length g8x] 30); have hq := fun i => Q.out.cell i; clear hal
  go_wp2_with (first | (go_at_call 15; (with_reducible refine (N2.out _ _ HB.out).mono ?_); rintro e W5 ⟨D5y, g5y, D6y, g6y, D7y, g7y, D8y, g8y, rfl, hh, hb⟩; replace B := Aside0.mk (below_then B.out B.out.size hb); replace HA := Aside0.mk (HA.out.below hb); replace HB := Aside0.mk (HB.out.below hb); replace HX := Aside0.mk (HX.out.below hb); replace X := Aside0.mk (X.out.below hb); replace hx := fun i => X.out.cell i; replace Y := Aside0.mk (Y.out.below hb); replace hy := fun i => Y.out.cell i; replace P := Aside0.mk (P.out.below hb); replace hp := fun i => P.out.cell i; replace Q := Aside0.mk (Q.out.below hb); replace hq := fun i => Q.out.cell i; have HY := Aside0.mk hh; have hxa := fun i => (X.out.alloc (.cells #[.int .i64 y.f0, .int .u64 y.f1, .int .u64 y.f2, .int .u64 y.f3, .int .u64 y.f4, .slice D5y y.f5.length g5y, .slice D6y y.f6.length g6y, .slice D7y y.f7.length g7y, .slice D8y y.f8.length g8y] 30)).cell i; have hya := fun i => (Y.out.alloc (.cells #[.int .i64 y.f0, .int .u64 y.f1, .int .u64 y.f2, .int .u64 y.f3, .int .u64 y.f4, .slice D5y y.f5.length g5y, .slice D6y y.f6.length g6y, .slice D7y y.f7.length g7y, .slice D8y y.f8.length g8y] 30)).cell i; have hpa := fun i => (P.out.alloc (.cells #[.int .i64 y.f0, .int .u64 y.f1, .int .u64 y.f2, .int .u64 y.f3, .int .u64 y.f4, .slice D5y y.f5.length g5y, .slice D6y y.f6.length g6y, .slice D7y y.f7.length g7y, .slice D8y y.f8.length g8y] 30)).cell i; have hqa := fun i => (Q.out.alloc (.cells #[.int .i64 y.f0, .int .u64 y.f1, .int .u64 y.f2, .int .u64 y.f3, .int .u64 y.f4, .slice D5y y.f5.length g5y, .slice D6y y.f6.length g6y, .slice D7y y.f7.length g7y, .slice D8y y.f8.length g8y] 30)).cell i; clear hh hb))
  (try clear hxa hya hpa hqa)
  have hal := below_alloc (Below.refl W5.heap.size W5) (.cells #[.int .i64 y.f0, .int .u64 y.f1, .int .u64 y.f2, .int .u64 y.f3, .int .u64 y.f4, .slice D5y y.f5.length g5y, .slice D6y y.f6.length g6y, .slice D7y y.f7.length g7y, .slice D8y y.f8.length g8y] 30)
  replace B := Aside0.mk (below_then B.out B.out.size hal)
  replace HA := Aside0.mk (HA.out.below hal)
  replace HB := Aside0.mk (HB.out.below hal)
  replace HX := Aside0.mk (HX.out.below hal)
  replace HY := Aside0.mk (HY.out.below hal)
  replace X := Aside0.mk (X.out.alloc (.cells #[.int .i64 y.f0, .int .u64 y.f1, .int .u64 y.f2, .int .u64 y.f3, .int .u64 y.f4, .slice D5y y.f5.length g5y, .slice D6y y.f6.length g6y, .slice D7y y.f7.length g7y, .slice D8y y.f8.length g8y] 30)); replace hx := fun i => X.out.cell i
  replace Y := Aside0.mk (Y.out.alloc (.cells #[.int .i64 y.f0, .int .u64 y.f1, .int .u64 y.f2, .int .u64 y.f3, .int .u64 y.f4, .slice D5y y.f5.length g5y, .slice D6y y.f6.length g6y, .slice D7y y.f7.length g7y, .slice D8y y.f8.length g8y] 30)); replace hy := fun i => Y.out.cell i
  replace P := Aside0.mk (P.out.alloc (.cells #[.int .i64 y.f0, .int .u64 y.f1, .int .u64 y.f2, .int .u64 y.f3, .int .u64 y.f4, .slice D5y y.f5.length g5y, .slice D6y y.f6.length g6y, .slice D7y y.f7.length g7y, .slice D8y y.f8.length g8y] 30)); replace hp := fun i => P.out.cell i
  replace Q := Aside0.mk (Q.out.alloc (.cells #[.int .i64 y.f0, .int .u64 y.f1, .int .u64 y.f2, .int .u64 y.f3, .int .u64 y.f4, .slice D5y y.f5.length g5y, .slice D6y y.f6.length g6y, .slice D7y y.f7.length g7y, .slice D8y y.f8.length g8y] 30)); replace hq := fun i => Q.out.cell i
  have R := Aside0.mk (Blk.new W5 #[.int .i64 y.f0, .int .u64 y.f1, .int .u64 y.f2, .int .u64 y.f3, .int .u64 y.f4, .slice D5y y.f5.length g5y, .slice D6y y.f6.length g6y, .slice D7y y.f7.length g7y, .slice D8y y.f8.length g8y] 30); have hr := fun i => R.out.cell i; clear hal
  go_wp2_with (first | (go_at_call 31; (with_reducible refine (K2.out _ _ _ HX.out HY.out).mono ?_); rintro e W6 ⟨rfl, hb⟩; replace B := Aside0.mk (below_then B.out B.out.size hb); replace HA := Aside0.mk (HA.out.below hb); replace HB := Aside0.mk (HB.out.below hb); replace HX := Aside0.mk (HX.out.below hb); replace HY := Aside0.mk (HY.out.below hb); replace X := Aside0.mk (X.out.below hb); replace hx := fun i => X.out.cell i; replace Y := Aside0.mk (Y.out.below hb); replace hy := fun i => Y.out.cell i; replace P := Aside0.mk (P.out.below hb); replace hp := fun i => P.out.cell i; replace Q := Aside0.mk (Q.out.below hb); replace hq := fun i => Q.out.cell i; replace R := Aside0.mk (R.out.below hb); replace hr := fun i => R.out.cell i; have hxa := fun i => (X.out.alloc (.cells #[.int .i64 0, .int .i64 0] 70)).cell i; have hya := fun i => (Y.out.alloc (.cells #[.int .i64 0, .int .i64 0] 70)).cell i; have hpa := fun i => (P.out.alloc (.cells #[.int .i64 0, .int .i64 0] 70)).cell i; have hqa := fun i => (Q.out.alloc (.cells #[.int .i64 0, .int .i64 0] 70)).cell i; have hra := fun i => (R.out.alloc (.cells #[.int .i64 0, .int .i64 0] 70)).cell i; clear  hb))
  (try clear hxa hya hpa hqa hra)
  have hal := below_alloc (Below.refl W6.heap.size W6) (.cells #[.int .i64 0, .int .i64 0] 70)
  replace B := Aside0.mk (below_then B.out B.out.size hal)
  replace HA := Aside0.mk (HA.out.below hal)
  replace HB := Aside0.mk (HB.out.below hal)
  replace HX := Aside0.mk (HX.out.below hal)
  replace HY := Aside0.mk (HY.out.below hal)
  replace X := Aside0.mk (X.out.alloc (.cells #[.int .i64 0, .int .i64 0] 70)); replace hx := fun i => X.out.cell i
  replace Y := Aside0.mk (Y.out.alloc (.cells #[.int .i64 0, .int .i64 0] 70)); replace hy := fun i => Y.out.cell i
  replace P := Aside0.mk (P.out.alloc (.cells #[.int .i64 0, .int .i64 0] 70)); replace hp := fun i => P.out.cell i
  replace Q := Aside0.mk (Q.out.alloc (.cells #[.int .i64 0, .int .i64 0] 70)); replace hq := fun i => Q.out.cell i
  replace R := Aside0.mk (R.out.alloc (.cells #[.int .i64 0, .int .i64 0] 70)); replace hr := fun i => R.out.cell i
  have S := Aside0.mk (Blk.new W6 #[.int .i64 0, .int .i64 0] 70); have hs := fun i => S.out.cell i; clear hal
  go_wp2_with (first | (go_at_call 13; (with_reducible refine (awake25_c _).mono ?_); rintro e W7 ⟨rfl, hb⟩; replace B := Aside0.mk (below_then B.out B.out.size hb); replace HA := Aside0.mk (HA.out.below hb); replace HB := Aside0.mk (HB.out.below hb); replace HX := Aside0.mk (HX.out.below hb); replace HY := Aside0.mk (HY.out.below hb); replace X := Aside0.mk (X.out.below hb); replace hx := fun i => X.out.cell i; replace Y := Aside0.mk (Y.out.below hb); replace hy := fun i => Y.out.cell i; replace P := Aside0.mk (P.out.below hb); replace hp := fun i => P.out.cell i; replace Q := Aside0.mk (Q.out.below hb); replace hq := fun i => Q.out.cell i; replace R := Aside0.mk (R.out.below hb); replace hr := fun i => R.out.cell i; replace S := Aside0.mk (S.out.below hb); replace hs := fun i => S.out.cell i; clear  hb))
  go_ret
  exact ⟨rfl, B.out⟩
def tidepolelaw25_ScaleResets.f (s0 z0 zc0 ct0 sm0 : Int) (l0_5 l0_6 : List Sp) (l0_7 l0_8 : List Int) (s1 z1 zc1 ct1 sm1 : Int) (l1_5 l1_6 : List Sp) (l1_7 l1_8 : List Int) (tt : Int) : Option Bool := if wfI ⟨s0, z0, zc0, ct0, sm0, l0_5, l0_6, l0_7, l0_8⟩ ∧ wfI ⟨s1, z1, zc1, ct1, sm1, l1_5, l1_6, l1_7, l1_8⟩ ∧ i64 tt then some true else none
theorem tidepolelaw25_ScaleResets.calls (s0 : Int) (z0 : Int) (zc0 : Int) (ct0 : Int) (sm0 : Int) (A0_5 : Option Addr) (c0_5 : Nat) (l0_5 : List Sp) (A0_6 : Option Addr) (c0_6 : Nat) (l0_6 : List Sp) (A0_7 : Option Addr) (c0_7 : Nat) (l0_7 : List Int) (A0_8 : Option Addr) (c0_8 : Nat) (l0_8 : List Int) (s1 : Int) (z1 : Int) (zc1 : Int) (ct1 : Int) (sm1 : Int) (A1_5 : Option Addr) (c1_5 : Nat) (l1_5 : List Sp) (A1_6 : Option Addr) (c1_6 : Nat) (l1_6 : List Sp) (A1_7 : Option Addr) (c1_7 : Nat) (l1_7 : List Int) (A1_8 : Option Addr) (c1_8 : Nat) (l1_8 : List Int) (tt : Int) (r : Bool) (w : World) (hr0_5 : Kd.C kSp w A0_5 l0_5.length l0_5) (hc0_5 : l0_5.length ≤ c0_5) (hr0_6 : Kd.C kSp w A0_6 l0_6.length l0_6) (hc0_6 : l0_6.length ≤ c0_6) (hr0_7 : Kd.C (Kd.int .i64) w A0_7 l0_7.length l0_7) (hc0_7 : l0_7.length ≤ c0_7) (hr0_8 : Kd.C (Kd.int .i64) w A0_8 l0_8.length l0_8) (hc0_8 : l0_8.length ≤ c0_8) (hr1_5 : Kd.C kSp w A1_5 l1_5.length l1_5) (hc1_5 : l1_5.length ≤ c1_5) (hr1_6 : Kd.C kSp w A1_6 l1_6.length l1_6) (hc1_6 : l1_6.length ≤ c1_6) (hr1_7 : Kd.C (Kd.int .i64) w A1_7 l1_7.length l1_7) (hc1_7 : l1_7.length ≤ c1_7) (hr1_8 : Kd.C (Kd.int .i64) w A1_8 l1_8.length l1_8) (hc1_8 : l1_8.length ≤ c1_8) (h : tidepolelaw25_ScaleResets.f s0 z0 zc0 ct0 sm0 l0_5 l0_6 l0_7 l0_8 s1 z1 zc1 ct1 sm1 l1_5 l1_6 l1_7 l1_8 tt = some r) :
    Calls Try.prog 9 #[.agg #[.int .i64 s0, .int .u64 z0, .int .u64 zc0, .int .u64 ct0, .int .u64 sm0, .slice A0_5 l0_5.length c0_5, .slice A0_6 l0_6.length c0_6, .slice A0_7 l0_7.length c0_7, .slice A0_8 l0_8.length c0_8], .agg #[.int .i64 s1, .int .u64 z1, .int .u64 zc1, .int .u64 ct1, .int .u64 sm1, .slice A1_5 l1_5.length c1_5, .slice A1_6 l1_6.length c1_6, .slice A1_7 l1_7.length c1_7, .slice A1_8 l1_8.length c1_8], .int .i64 tt] w fun e w' => e = .returned (.bool r) ∧ Below w.heap.size w w' := by
  obtain ⟨⟨q0, q1, q2⟩, rfl⟩ := of_ite_some h
  exact scaleResets_c _ _ _ q0 q1 q2 w _ _ _ rfl (HI.mk (h := ⟨s0, z0, zc0, ct0, sm0, l0_5, l0_6, l0_7, l0_8⟩) (.of hr0_5 hc0_5) (.of hr0_6 hc0_6) (.of hr0_7 hc0_7) (.of hr0_8 hc0_8)) (HI.mk (h := ⟨s1, z1, zc1, ct1, sm1, l1_5, l1_6, l1_7, l1_8⟩) (.of hr1_5 hc1_5) (.of hr1_6 hc1_6) (.of hr1_7 hc1_7) (.of hr1_8 hc1_8))
end Go.Proofs.Ytgkplhdcafbfbaa.P
namespace Go.Proofs.Ytgkplhdcafbfbaa.P
def headSigns : List Char := List.map Char.ofNat [104, 97, 114, 110, 101, 115, 115, 32, 48, 57, 48, 56, 53, 100, 56, 99, 51, 55, 101, 56, 50, 49, 53, 48, 57, 56, 101, 48, 49, 53, 51, 97, 99, 99, 48, 52, 50, 54, 48, 49, 53, 57, 50, 102, 50, 57, 100, 102, 50, 49, 99, 99, 57, 99, 51, 52, 101, 49, 57, 51, 98, 48, 55, 51, 55, 49, 53, 100, 98, 97, 101, 100, 32, 99, 117, 116, 32, 97, 116, 32, 116, 105, 100, 101, 112, 111, 108, 101, 47, 116, 105, 100, 101, 112, 111, 108, 101, 108, 97, 119, 50, 53, 46, 83, 99, 97, 108, 101, 80, 108, 97, 99, 101, 115, 32, 116, 105, 100, 101, 112, 111, 108, 101, 47, 116, 105, 100, 101, 112, 111, 108, 101, 108, 97, 119, 50, 53, 46, 83, 99, 97, 108, 101, 73, 110, 116, 115, 32, 116, 105, 100, 101, 112, 111, 108, 101, 47, 116, 105, 100, 101, 112, 111, 108, 101, 108, 97, 119, 50, 53, 46, 83, 99, 97, 108, 101, 70, 108, 111, 97, 116, 115, 32, 116, 105, 100, 101, 112, 111, 108, 101, 47, 116, 105, 100, 101, 112, 111, 108, 101, 108, 97, 119, 50, 53, 46, 83, 99, 97, 108, 101, 75, 101, 101, 112, 115, 32, 116, 105, 100, 101, 112, 111, 108, 101, 47, 116, 105, 100, 101, 112, 111, 108, 101, 108, 97, 119, 50, 53, 46, 83, 99, 97, 108, 101, 70, 105, 116, 115, 32, 116, 105, 100, 101, 112, 111, 108, 101, 47, 116, 105, 100, 101, 112, 111, 108, 101, 108, 97, 119, 50, 53, 46, 83, 99, 97, 108, 101, 84, 119, 105, 99, 101, 32, 116, 105, 100, 101, 112, 111, 108, 101, 47, 116, 105, 100, 101, 112, 111, 108, 101, 108, 97, 119, 50, 53, 46, 83, 99, 97, 108, 101, 82, 101, 115, 101, 116, 115, 32, 116, 105, 100, 101, 112, 111, 108, 101, 47, 116, 105, 100, 101, 112, 111, 108, 101, 108, 97, 119, 50, 57, 46, 82, 97, 110, 107, 83, 99, 97, 108, 101, 115]
theorem head_is : Try.prog.initOrder = String.ofList headSigns := by kernel_rfl
theorem head_signs : Try.prog.initOrder.toList = headSigns := by rw [head_is]; exact String.toList_ofList
theorem head_first : (behindMainWord (wordsSigns headSigns)).head? = some "cut".toList := by kernel_rfl
theorem head_words : ∃ r, behindMainWord (wordsSigns headSigns) = "cut".toList :: r := by have h := head_first; cases h2 : behindMainWord (wordsSigns headSigns) with | nil => rw [h2] at h; cases h | cons c r => rw [h2] at h; injection h with h; exact ⟨r, by rw [h]⟩
theorem strip_cut (r : List (List Char)) : stripLifts liftWords ("cut".toList :: r) = ([], "cut".toList :: r) := by kernel_rfl
theorem head_lifts : Try.prog.headLifts = [] := by obtain ⟨r, hr⟩ := head_words; unfold Program.headLifts; rw [head_signs, hr, strip_cut]; kernel_rfl
theorem head_doorFits : Try.prog.doorFits [] = true := by kernel_rfl
theorem head_laysLater : Try.prog.laysLater = false := by kernel_rfl
theorem head_bearsReflect : Try.prog.bearsReflect = false := by kernel_rfl
theorem mayEnter_of {P : Program} {L : List Char} {r : List (List Char)} (h1 : P.initOrder.toList = L) (h2 : behindMainWord (wordsSigns L) = "cut".toList :: r) (h3 : P.doorFits [] = true) (h4 : P.laysLater = false) (h5 : P.bearsReflect = false) : P.mayEnter = true := by unfold Program.mayEnter; rw [h1, h2]; simp only [strip_cut, h3, h4, h5]; kernel_rfl
theorem head_mayEnter : Try.prog.mayEnter = true := by obtain ⟨r, hr⟩ := head_words; exact mayEnter_of head_signs hr head_doorFits head_laysLater head_bearsReflect
theorem head_liftsFinal : Try.prog.liftsFinal = false := by obtain ⟨r, hr⟩ := head_words; unfold Program.liftsFinal; rw [head_signs, head_lifts, hr]; kernel_rfl
theorem make_of {P : Program} {L : List Char} {r : List (List Char)} (h1 : P.initOrder.toList = L) (h2 : behindMainWord (wordsSigns L) = "cut".toList :: r) : P.make = some .cut := by unfold Program.make; rw [h1, h2]; kernel_rfl
theorem head_make : Try.prog.make = some .cut := by obtain ⟨r, hr⟩ := head_words; exact make_of head_signs hr
theorem head_laidOut : laidOutB Try.prog = true := by kernel_rfl
theorem head_mapsRowed : mapsRowed Try.prog = true := by kernel_rfl
theorem head_stops : (Try.prog.stops == []) = true := by kernel_rfl
theorem head_stopKnobs : (Try.prog.stopKnobs == []) = true := by kernel_rfl
theorem head_plainKeys : Try.prog.plainKeys = true := by kernel_rfl
theorem head_stopsHeard : Try.prog.stopsHeard = true := by kernel_rfl
end Go.Proofs.Ytgkplhdcafbfbaa.P
namespace Go.Proofs.Ytgkplhdcafbfbaa.Pure
open Go.RowKit Go.Proofs.Ytgkplhdcafbfbaa.P Go.Proofs.YtgkplhdcafbfbaaW.PrintWords
theorem ScaleResets : ∀ (x0 : S30) (x1 : S30) (a2 : Int), wf30 x0 → wf30 x1 → (inI .i64) a2 → tidepolelaw25_ScaleResets.f x0.f0 x0.f1 x0.f2 x0.f3 x0.f4 x0.f5 x0.f6 x0.f7 x0.f8 x1.f0 x1.f1 x1.f2 x1.f3 x1.f4 x1.f5 x1.f6 x1.f7 x1.f8 a2 = some true := fun _ _ _ h0 h1 h2 => if_pos ⟨wfI_of h0, wfI_of h1, i64_of h2⟩
end Go.Proofs.Ytgkplhdcafbfbaa.Pure
namespace Go.Proofs.Ytgkplhdcafbfbaa.scaleResets
open Go.ChangeShapes Go.WideShapes Go.ChangeAt Go.RowKit Go.Proofs.Ytgkplhdcafbfbaa.P Go.Proofs.YtgkplhdcafbfbaaW.PrintWords
theorem own : ownKnob Try.prog.godebug = none := by kernel_rfl
theorem laidOut : laidOutB Try.prog = true := by kernel_rfl
set_option maxRecDepth 100000 in
set_option maxHeartbeats 4000000 in
theorem lifted (os : Os) (started : os.Started) (H : Type) (enc : TypeId × Value → H) :
    ReturnsInHanded {} Try.checked os 9 .any (Rows.scaleResetsSpec.pre6 enc Try.prog Try.f9 Rows.scaleResetsRow.domain false) (Rows.scaleResetsSpec.post enc Try.prog Try.f9 false true false false) := by
  refine returnsInHanded_of_change_sized (C := Try.checked) own started (by kernel_rfl) Try.func9
    (ChangeSpec.witness6 (enc := enc) (C := Try.checked) false ⟨#[], #[.agg #[.int .i64 0, .int .u64 0, .int .u64 0, .int .u64 0, .int .u64 0, .slice none 0 0, .slice none 0 0, .slice none 0 0, .slice none 0 0], .agg #[.int .i64 0, .int .u64 0, .int .u64 0, .int .u64 0, .int .u64 0, .slice none 0 0, .slice none 0 0, .slice none 0 0, .slice none 0 0], .int .i64 0], []⟩ 8 (by kernel_rfl) (by kernel_rfl) (by kernel_rfl) (by kernel_rfl)) ?_
  intro W base args ds gs before hval0 hW hcnd hsz0 _
  have hval : ∀ (j : Nat) t v, Try.f9.params[j]? = some t → args[j]? = some v → Value.okWide Try.prog W .any base t v := hval0
  have hW' := hW
  obtain ⟨p, q, hA0, hV, rfl, hfz, hnd⟩ := hW
  have hA : DataW.TrodAll enc Try.prog W 0 (fun _ => true) true Try.f9.params.toList args.toList ds p := hA0
  rw [Try.params9] at hA hval
  obtain ⟨v0, vs0, d0, ds0, p0, q0, hargs, rfl, rfl, h0, r0⟩ := trodAll_cons hA
  obtain ⟨v1, vs1, d1, ds1, p1, q1, rfl, rfl, rfl, h1, r1⟩ := trodAll_cons r0
  obtain ⟨v2, vs2, d2, ds2, p2, q2, rfl, rfl, rfl, h2, r2⟩ := trodAll_cons r1
  obtain ⟨rfl, rfl, rfl⟩ := trodAll_nil r2
  obtain rfl : args = #[v0, v1, v2] := by cases args; simp_all
  obtain ⟨rfl, rfl⟩ := trodVars_none hV
  have k0 := h0
  have lt0 : ∀ x ∈ p0, x.block < W.heap.size := by obtain ⟨m, hm⟩ := k0; exact DataW.trod_lt m _ _ _ hm
  obtain ⟨fu0, hf0⟩ := h0
  obtain ⟨x0, hK0, w0⟩ := opens30 enc W 0 _ true fu0 _ _ hf0
  obtain ⟨cs0, rfl, _⟩ := okWide_struct Try.underlying30 (hval 0 30 v0 rfl rfl)
  obtain ⟨A0_5, c0_5, A0_6, c0_6, A0_7, c0_7, A0_8, c0_8, he0, h0_5_l, hC0_5, h0_6_l, hC0_6, h0_7_l, hC0_7, h0_8_l, hC0_8⟩ := k30_open hK0
  obtain rfl : cs0 = #[.int .i64 x0.f0, .int .u64 x0.f1, .int .u64 x0.f2, .int .u64 x0.f3, .int .u64 x0.f4, .slice A0_5 x0.f5.length c0_5, .slice A0_6 x0.f6.length c0_6, .slice A0_7 x0.f7.length c0_7, .slice A0_8 x0.f8.length c0_8] := by
    have he : cs0.toList = _ := he0
    exact Array.toList_inj.1 he
  have k1 := h1
  have lt1 : ∀ x ∈ p1, x.block < W.heap.size := by obtain ⟨m, hm⟩ := k1; exact DataW.trod_lt m _ _ _ hm
  obtain ⟨fu1, hf1⟩ := h1
  obtain ⟨x1, hK1, w1⟩ := opens30 enc W 0 _ true fu1 _ _ hf1
  obtain ⟨cs1, rfl, _⟩ := okWide_struct Try.underlying30 (hval 1 30 v1 rfl rfl)
  obtain ⟨A1_5, c1_5, A1_6, c1_6, A1_7, c1_7, A1_8, c1_8, he1, h1_5_l, hC1_5, h1_6_l, hC1_6, h1_7_l, hC1_7, h1_8_l, hC1_8⟩ := k30_open hK1
  obtain rfl : cs1 = #[.int .i64 x1.f0, .int .u64 x1.f1, .int .u64 x1.f2, .int .u64 x1.f3, .int .u64 x1.f4, .slice A1_5 x1.f5.length c1_5, .slice A1_6 x1.f6.length c1_6, .slice A1_7 x1.f7.length c1_7, .slice A1_8 x1.f8.length c1_8] := by
    have he : cs1.toList = _ := he1
    exact Array.toList_inj.1 he
  obtain ⟨a2, rfl, rfl, rfl, w2⟩ := open_int Try.underlying3 (hval 2 3 v2 rfl rfl) h2
  clear hA0 hval0 hsz0
  obtain hk := Pure.ScaleResets x0 x1 a2 w0 w1 w2
  refine (P.tidepolelaw25_ScaleResets.calls x0.f0 x0.f1 x0.f2 x0.f3 x0.f4 A0_5 c0_5 x0.f5 A0_6 c0_6 x0.f6 A0_7 c0_7 x0.f7 A0_8 c0_8 x0.f8 x1.f0 x1.f1 x1.f2 x1.f3 x1.f4 A1_5 c1_5 x1.f5 A1_6 c1_6 x1.f6 A1_7 c1_7 x1.f7 A1_8 c1_8 x1.f8 a2 true W hC0_5 h0_5_l hC0_6 h0_6_l hC0_7 h0_7_l hC0_8 h0_8_l hC1_5 h1_5_l hC1_6 h1_6_l hC1_7 h1_7_l hC1_8 h1_8_l hk).mono fun e W' ⟨he, bel⟩ => ?_
  subst he
  exact ⟨_, rfl, _, _, _, [], _, [], hW', trodAll_mk1 (shut_bool Try.underlying4 _), (trodAll_cons_mk (Below.trod laidOut (by kernel_rfl) (of_decide_eq_true (by kernel_rfl)) k0 bel lt0) (trodAll_cons_mk (Below.trod laidOut (by kernel_rfl) (of_decide_eq_true (by kernel_rfl)) k1 bel lt1) (trodAll_cons_mk (shut_int Try.underlying3 w2) trodAll_mk0))), rfl, bel.frame _, fun h => by cases h⟩
theorem cf0 : (Rows.scaleResetsRow.wf (OpenSpec.ofChange Rows.scaleResetsSpec)) = true := by kernel_rfl
theorem cf1 : (laidOutB Try.prog) = true := P.head_laidOut
theorem cf2 : (mapsRowed Try.prog) = true := P.head_mapsRowed
theorem cf3 : (Try.f9.params.all (Try.prog.readableRec ·)) = true := by kernel_rfl
theorem cf4 : (namedTie Try.prog Rows.scaleResetsRow.named Rows.scaleResetsSpec.vars) = true := by kernel_rfl
theorem cf5 : ((Rows.scaleResetsRow.stops == [])) = true := by kernel_rfl
theorem cf6 : ((Try.prog.stops == [])) = true := P.head_stops
theorem cf7 : ((Rows.scaleResetsRow.knobs == [])) = true := by kernel_rfl
theorem cf8 : ((Try.prog.stopKnobs == [])) = true := P.head_stopKnobs
theorem cf9 : ((Rows.scaleResetsRow.inPlace == Try.prog.inPlace 9)) = true := by kernel_rfl
theorem cf10 : ((Rows.scaleResetsRow.unfollowed == Try.prog.unfollowed 9)) = true := by kernel_rfl
theorem cf11 : ((Rows.scaleResetsRow.recurses == Try.prog.recurses 9)) = true := by kernel_rfl
theorem cf12 : ((Rows.scaleResetsRow.named == Try.prog.varsNamed 9)) = true := by kernel_rfl
theorem cf13 : ((Rows.scaleResetsRow.maps == (Try.f9.params.toList ++ Rows.scaleResetsSpec.plain.varTypes Try.prog).any (Try.prog.mapsRec ·))) = true := by kernel_rfl
theorem cf14 : ((Rows.scaleResetsRow.ifaces == (Try.f9.params.toList ++ Rows.scaleResetsSpec.plain.varTypes Try.prog).any (Try.prog.ifacesRec ·))) = true := by kernel_rfl
theorem cf15 : ((Rows.scaleResetsRow.mapsOut == Try.prog.mapsAmong Try.f9.resultTypes.toList)) = true := by kernel_rfl
theorem cf16 : ((Rows.scaleResetsRow.loops == (Try.f9.params.toList ++ Rows.scaleResetsSpec.plain.varTypes Try.prog).any (Try.prog.loopsFrom ·))) = true := by kernel_rfl
theorem cf17 : ((Rows.scaleResetsRow.wideKeys == (Try.f9.params.toList ++ Rows.scaleResetsSpec.plain.varTypes Try.prog ++ Try.f9.resultTypes.toList).any (Try.prog.wideKeysFrom ·))) = true := by kernel_rfl
theorem cf18 : (Rows.scaleResetsSpec.vars.all (Try.prog.varReadable ·)) = true := by kernel_rfl
theorem cf19 : (Try.f9.resultTypes.all (fun t => Try.prog.readableRec t && decide (t < Try.prog.types.size))) = true := by kernel_rfl
theorem cf20 : ((Rows.scaleResetsRow.ifacesOut == Try.f9.resultTypes.toList.any (Try.prog.ifacesRec ·))) = true := by kernel_rfl
theorem cf21 : ((Rows.scaleResetsRow.loopsOut == Try.f9.resultTypes.toList.any (Try.prog.loopsFrom ·))) = true := by kernel_rfl
theorem cf22 : ((Rows.scaleResetsRow.plainKeys == Try.prog.plainKeys)) = true := by rw [P.head_plainKeys]; kernel_rfl
theorem cf23 : (Rows.scaleResetsRow.shortTexts.isNone) = true := by kernel_rfl
theorem cf24 : (Try.prog.stopsHeard) = true := P.head_stopsHeard
theorem cf25 : (Try.prog.mayEnter) = true := P.head_mayEnter
theorem cf26 : ((Rows.scaleResetsRow.lifted == Try.prog.liftsFinal)) = true := by rw [P.head_liftsFinal]; kernel_rfl
theorem cf27 : ((Try.prog.make == some Rows.scaleResetsRow.make)) = true := by rw [P.head_make]; kernel_rfl
theorem cf28 : ((Rows.scaleResetsRow.kinds == (if Rows.scaleResetsRow.domain.isEmpty then [] else Try.f9.params.toList.map fun t => match Try.prog.underlying t with | some (.int k) => some k | _ => none))) = true := by kernel_rfl
theorem cf29 : ((Rows.scaleResetsRow.pinned == Rows.scaleResetsRow.pinnedBy)) = true := by kernel_rfl
theorem cf30 : ((Rows.scaleResetsRow.veiled == (Try.f9.params.toList ++ Rows.scaleResetsSpec.plain.varTypes Try.prog ++ Try.f9.resultTypes.toList).any (Try.prog.veiledRec ·))) = true := by kernel_rfl
theorem cf31 : (Rows.scaleResetsRow.veiledFits Try.prog Try.f9.params.toList (Try.f9.params.toList ++ Rows.scaleResetsSpec.plain.varTypes Try.prog ++ Try.f9.resultTypes.toList)) = true := by kernel_rfl
theorem band_mk {a b : Bool} (h : a = true) (k : b = true) : (a && b) = true := by rw [h, k]; rfl
theorem closed : joinedFacts Try.prog 9 Try.f9 Rows.scaleResetsSpec Rows.scaleResetsRow = true := by unfold joinedFacts; exact (band_mk (band_mk (band_mk (band_mk (band_mk (band_mk (band_mk (band_mk (band_mk (band_mk (band_mk (band_mk (band_mk (band_mk (band_mk (band_mk (band_mk (band_mk (band_mk (band_mk (band_mk (band_mk (band_mk (band_mk (band_mk (band_mk (band_mk (band_mk (band_mk (band_mk (band_mk cf0 cf1) cf2) cf3) cf4) cf5) cf6) cf7) cf8) cf9) cf10) cf11) cf12) cf13) cf14) cf15) cf16) cf17) cf18) cf19) cf20) cf21) cf22) cf23) cf24) cf25) cf26) cf27) (by kernel_rfl)) cf29) cf30) cf31)
theorem over : Rows.scaleResetsRow.holds Try.pinned (OpenSpec.ofChange Rows.scaleResetsSpec) :=
  OpenClaim.holds_of_wide 9 Try.f9 rfl rfl rfl rfl rfl rfl rfl ⟨rfl, rfl, rfl, rfl, rfl⟩ rfl rfl rfl rfl rfl (by kernel_rfl) Try.func9 closed
    (of_decide_eq_true (by kernel_rfl)) (by unfold Func.isWrapper; first | (rw [if_pos (by decide +kernel)]; kernel_rfl) | (rw [if_neg (by decide +kernel)]; exact ⟨rfl, rfl⟩))
    (fun os started H enc _ => lifted os started H enc)
theorem proved : Rows.ScaleResetsSaid := over
#print axioms proved
end Go.Proofs.Ytgkplhdcafbfbaa.scaleResets
namespace Go.Proofs.Ytgkplhdcafbfbaa
theorem scaleResets_holds : Rows.ScaleResetsSaid := scaleResets.proved
end Go.Proofs.Ytgkplhdcafbfbaa
