/- HistPairs: the part that this text bears of the proof that the statement answers true for every input. No condition. -/
import Derived.Test.YtacgeafjilipdaaProg
import Derived.Below
import Derived.Deep.Draws
import Derived.Deep.AppendLies
import Derived.Maps.AppendAt
import Derived.OwnWalk
import Derived.Laws.BytesArg
import Derived.Laws.MakeOwn
import Derived.Laws.OwnMore
import Derived.Deep.OwnRows
import Derived.Tactics
import Derived.Lib.ConvBytes
import Derived.Laws.Slices
import Derived.WalkKit
import Derived.KernelRfl
import Derived.RowKit3
import Derived.Deep.LoopGhost
import Derived.Deep.QuietTactic
import Derived.BigQuiet
import Derived.WideLaws
import Derived.Deep.DeepCutAuto
import Derived.Deep.CutBlock
import Derived.Deep.RegionHeld3
import Derived.Laws.Rows
import Derived.Lib.AppendStr
import Derived.ArgAppend
import Derived.Laws.IdiomCopy
import Derived.OrdersHeld
import Derived.Laws.BitsLemmas
import Derived.RowKit
import Derived.Deep.Slices
import Derived.ChangeArms
import Derived.Shelf.Abstract
import Derived.WalkSpells
import Derived.RangeFuncNested
import Derived.RangeFuncBound
import Derived.RangeFuncCalls
import Derived.RangeFuncLeaves
import Derived.RangeFuncBox
import Derived.OwnWalkIn
import Derived.TacticsInMore
import Derived.LoopNIn
import Derived.LoopIn
import Derived.Laws.Externs
import Derived.Shelf.Spec.BitsCarry
import Derived.RegionIn
import Derived.Sort.QuietTacIn
import Derived.Deep.RegionWith
import Derived.Laws.BitsAllLaws
import Derived.ProofKit
import Derived.JoinedOf
import Derived.OpenShut
import Derived.ShutString
import Derived.ChangeOld
import Derived.SizedLaws
import Derived.Test.YtacgeafjilipdaaWWords
import Derived.Test.YtacgeafjilipdaaWLast
import Derived.Test.YtacgeafjilipdaaWTab
import Derived.Test.YtacgeafjilipdaaWQPut
import Derived.Test.YtacgeafjilipdaaWApart
import Derived.Test.YtacgeafjilipdaaWArr
import Derived.Test.YtacgeafjilipdaaWZeros
import Derived.Test.YtacgeafjilipdaaWFoot
import Derived.Test.YtacgeafjilipdaaWKept
import Derived.Test.YtacgeafjilipdaaWShare
import Derived.Test.YtacgeafjilipdaaWN
import Derived.Test.YtacgeafjilipdaaWEqStruct
import Derived.Test.YtacgeafjilipdaaWRepsOne
import Derived.Test.YtacgeafjilipdaaWInv
import Derived.Test.YtacgeafjilipdaaWGuard
import Derived.Test.YtacgeafjilipdaaWNEv
import Derived.Test.YtacgeafjilipdaaWMore
import Derived.Test.YtacgeafjilipdaaRows
import Derived.Test.YtacgeafjilipdaaQHistPairs0
import Derived.Test.YtacgeafjilipdaaQHistPairs1
import Derived.Test.YtacgeafjilipdaaQHistPairs2
namespace Go.Proofs.Ytacgeafjilipdaa.P
open Go.RowKit Go.Shelf Go.Proofs.YtacgeafjilipdaaW.PrintWords Go.Proofs.YtacgeafjilipdaaW.PrintLast Go.Proofs.YtacgeafjilipdaaW.PrintMore
set_option linter.unusedVariables false
set_option linter.unusedSimpArgs false
def oneH : Hi := ⟨0, 1, 1, 6, 0, [⟨3, 2⟩], [], [5, -5], []⟩
def canH : Hi := ⟨0, 1, 1, 6, 0, [⟨3, 1⟩], [], [5], []⟩
def badH : Hi := ⟨0, 1, 1, 7, 0, [⟨3, 2⟩], [], [5, -5], []⟩
def oneP : List Pr := [⟨3, 5⟩, ⟨4, 0⟩]
theorem oneH_wf : wfH oneH := by unfold wfH; decide
theorem canH_wf : wfH canH := by unfold wfH; decide
theorem badH_wf : wfH badH := by unfold wfH; decide
theorem aw09_1 : pairsR oneH 0 = (oneP, 0) := by kernel_rfl
theorem aw09_2 : canonR oneH = (canH, 0) := by kernel_rfl
theorem aw09_3 : checkR badH = 22 := by kernel_rfl
theorem aw09_4 : makeR oneH oneP [] = (oneH, 0) := by kernel_rfl
theorem aw09_5 : overR canH oneH.f5 [] = (oneH, 0) := by kernel_rfl
theorem aw09_6 : equalR oneH oneH = true := by kernel_rfl
theorem aw09_7 : equalR oneH canH = true := by kernel_rfl
theorem aw09_8 : equalR oneH badH = false := by kernel_rfl
theorem aw09_9 : hist_NaN.f 9223372036854775807 = some true := by kernel_rfl
theorem aw09_10 : hist_Threshold.f 0 = some true := by kernel_rfl
theorem oneP_wf : wfRow oneP := ⟨by unfold wfPrs oneP; decide, by decide⟩
theorem one_x (w : World) : Calls Try.prog 149 #[] w fun e w' => ∃ oA5 oc5 oA6 oc6 oA7 oc7 oA8 oc8, e = .returned (.agg #[.int .i64 0, .int .u64 1, .int .u64 1, .int .u64 6, .int .u64 0, .slice oA5 1 oc5, .slice oA6 0 oc6, .slice oA7 2 oc7, .slice oA8 0 oc8]) ∧ HI w' (.agg #[.int .i64 0, .int .u64 1, .int .u64 1, .int .u64 6, .int .u64 0, .slice oA5 1 oc5, .slice oA6 0 oc6, .slice oA7 2 oc7, .slice oA8 0 oc8]) oneH ∧ Below w.heap.size w w' := by
  refine (tidepolelaw09_one.calls 0 1 1 6 0 [⟨3, 2⟩] [] [5, -5] [] w (by kernel_rfl)).mono ?_
  rintro e w1 ⟨v5, v6, v7, v8, rfl, h5, h6, h7, h8, hb⟩
  have hi : HI w1 (.agg #[.int .i64 0, .int .u64 1, .int .u64 1, .int .u64 6, .int .u64 0, v5, v6, v7, v8]) oneH := ⟨v5, v6, v7, v8, rfl, .of_R h5, .of_R h6, .of_R h7, .of_R h8⟩
  obtain ⟨a5, c5, a6, c6, a7, c7, a8, c8, e, -⟩ := hi.open_
  rw [e] at hi ⊢
  exact ⟨a5, c5, a6, c6, a7, c7, a8, c8, rfl, hi, hb⟩
theorem pairs_x (w : World) (v : Value) (hv : HI w v oneH) : Calls Try.prog 76 #[v, .int .i64 0] w fun e w' => ∃ A c, e = .returned (.tuple #[.slice A 2 c, .int .i64 0]) ∧ SI kPr w' (.slice A 2 c) oneP ∧ Below w.heap.size w w' := by
  have := pairs_c oneH oneH_wf 0 w v hv
  rw [aw09_1] at this
  refine this.mono ?_
  rintro e w1 ⟨v0, rfl, h0, hb⟩
  have h0' := h0
  obtain ⟨A, c, rfl, -⟩ := h0'
  exact ⟨A, c, rfl, h0, hb⟩
theorem canon_x (w : World) (v : Value) (hv : HI w v oneH) : Calls Try.prog 90 #[v] w fun e w' => ∃ cA5 cc5 cA6 cc6 cA7 cc7 cA8 cc8, e = .returned (.tuple #[.agg #[.int .i64 0, .int .u64 1, .int .u64 1, .int .u64 6, .int .u64 0, .slice cA5 1 cc5, .slice cA6 0 cc6, .slice cA7 1 cc7, .slice cA8 0 cc8], .int .i64 0]) ∧ HI w' (.agg #[.int .i64 0, .int .u64 1, .int .u64 1, .int .u64 6, .int .u64 0, .slice cA5 1 cc5, .slice cA6 0 cc6, .slice cA7 1 cc7, .slice cA8 0 cc8]) canH ∧ Below w.heap.size w w' := by
  have := canon_c oneH oneH_wf w v hv
  rw [aw09_2] at this
  refine this.mono ?_
  rintro e w1 ⟨v0, rfl, h0, hb⟩
  obtain ⟨a5, c5, a6, c6, a7, c7, a8, c8, e, -⟩ := h0.now.open_
  have hi := h0.now
  subst e
  exact ⟨a5, c5, a6, c6, a7, c7, a8, c8, rfl, hi, hb⟩
theorem make_x (w : World) (v vp : Value) (hv : HI w v oneH) (hp : SI kPr w vp oneP) : Calls Try.prog 87 #[v, vp, .slice none 0 0] w fun e w' => ∃ mA5 mc5 mA6 mc6 mA7 mc7 mA8 mc8, e = .returned (.tuple #[.agg #[.int .i64 0, .int .u64 1, .int .u64 1, .int .u64 6, .int .u64 0, .slice mA5 1 mc5, .slice mA6 0 mc6, .slice mA7 2 mc7, .slice mA8 0 mc8], .int .i64 0]) ∧ HI w' (.agg #[.int .i64 0, .int .u64 1, .int .u64 1, .int .u64 6, .int .u64 0, .slice mA5 1 mc5, .slice mA6 0 mc6, .slice mA7 2 mc7, .slice mA8 0 mc8]) oneH ∧ Below w.heap.size w w' := by
  have := make_c oneH oneH_wf oneP [] oneP_wf RowOK.nil.wf w v vp _ hv hp (SI.nil _ _)
  rw [aw09_4] at this
  refine this.mono ?_
  rintro e w1 ⟨v0, rfl, h0, hb⟩
  obtain ⟨a5, c5, a6, c6, a7, c7, a8, c8, e, -⟩ := h0.now.open_
  have hi := h0.now
  subst e
  exact ⟨a5, c5, a6, c6, a7, c7, a8, c8, rfl, hi, hb⟩
theorem over_x (w : World) (v vp : Value) (hv : HI w v canH) (hp : SI kSp w vp oneH.f5) : Calls Try.prog 83 #[v, vp, .slice none 0 0] w fun e w' => ∃ rA5 rc5 rA6 rc6 rA7 rc7 rA8 rc8, e = .returned (.tuple #[.agg #[.int .i64 0, .int .u64 1, .int .u64 1, .int .u64 6, .int .u64 0, .slice rA5 1 rc5, .slice rA6 0 rc6, .slice rA7 2 rc7, .slice rA8 0 rc8], .int .i64 0]) ∧ HF w.heap.size w' (.agg #[.int .i64 0, .int .u64 1, .int .u64 1, .int .u64 6, .int .u64 0, .slice rA5 1 rc5, .slice rA6 0 rc6, .slice rA7 2 rc7, .slice rA8 0 rc8]) oneH ∧ Below w.heap.size w w' := by
  have := over_c canH canH_wf oneH.f5 [] oneH_wf.2.2.2.2.2.1 (fun s hs => by simp at hs) w v vp _ hv hp (SI.nil _ _)
  rw [aw09_5] at this
  refine this.mono ?_
  rintro e w1 ⟨v0, rfl, h0, hb⟩
  obtain ⟨a5, c5, a6, c6, a7, c7, a8, c8, e, -⟩ := h0.now.open_
  subst e
  exact ⟨a5, c5, a6, c6, a7, c7, a8, c8, rfl, h0, hb⟩
theorem equal_x (a b : Hi) (ha : wfH a) (hb : wfH b) (r : Bool) (he : equalR a b = r) (w : World) (u v : Value) (hu : HI w u a) (hv : HI w v b) : Calls Try.prog 80 #[u, v] w fun e w' => e = .returned (.bool r) ∧ Below w.heap.size w w' := he ▸ equal_c a b ha hb w u v hu hv
theorem check_x (a : Hi) (ha : wfH a) (r : Int) (he : checkR a = r) (w : World) (u : Value) (hu : HI w u a) : Calls Try.prog 67 #[u] w fun e w' => e = .returned (.int .i64 r) ∧ Below w.heap.size w w' := he ▸ check_c a ha w u hu
theorem HI.spans {w : World} {h : Hi} {A5 A6 A7 A8 : Option Addr} {n5 n6 n7 n8 c5 c6 c7 c8 : Nat} {x0 x1 x2 x3 x4 : Value} (hv : HI w (.agg #[x0, x1, x2, x3, x4, .slice A5 n5 c5, .slice A6 n6 c6, .slice A7 n7 c7, .slice A8 n8 c8]) h) : SI kSp w (.slice A5 n5 c5) h.f5 := by
  obtain ⟨v5, v6, v7, v8, e, h5, -⟩ := hv
  injection e with e
  have e5 := congrArg (fun a : Array Value => a.getD 5 undef) e
  simp at e5
  rw [e5]; exact h5
theorem HI.bad {w : World} {A5 A6 A7 A8 : Option Addr} {n5 n6 n7 n8 c5 c6 c7 c8 : Nat} (hv : HI w (.agg #[.int .i64 0, .int .u64 1, .int .u64 1, .int .u64 6, .int .u64 0, .slice A5 n5 c5, .slice A6 n6 c6, .slice A7 n7 c7, .slice A8 n8 c8]) oneH) : HI w (.agg #[.int .i64 0, .int .u64 1, .int .u64 1, .int .u64 7, .int .u64 0, .slice A5 n5 c5, .slice A6 n6 c6, .slice A7 n7 c7, .slice A8 n8 c8]) badH := by
  obtain ⟨v5, v6, v7, v8, e, h5, h6, h7, h8⟩ := hv
  injection e with e
  have e5 := congrArg (fun a : Array Value => a.getD 5 undef) e
  have e6 := congrArg (fun a : Array Value => a.getD 6 undef) e
  have e7 := congrArg (fun a : Array Value => a.getD 7 undef) e
  have e8 := congrArg (fun a : Array Value => a.getD 8 undef) e
  simp at e5 e6 e7 e8
  subst e5; subst e6; subst e7; subst e8
  exact ⟨_, _, _, _, rfl, h5, h6, h7, h8⟩
theorem field5_x (a5 a6 a7 a8 : Option Addr) (n5 c5 n6 c6 n7 c7 n8 c8 : Nat) (x0 x1 x2 x3 x4 : Int) (W : World) : (Instr.field 64 (.agg #[.int .i64 x0, .int .u64 x1, .int .u64 x2, .int .u64 x3, .int .u64 x4, .slice a5 n5 c5, .slice a6 n6 c6, .slice a7 n7 c7, .slice a8 n8 c8]) 5).run Try.prog W = .ok (.slice a5 n5 c5) W := by
  kernel_rfl
set_option maxHeartbeats 16000000 in
set_option maxRecDepth 100000 in
theorem awake09_c (w : World) : Calls Try.prog 70 #[] w fun e w' => e = .returned (.bool true) ∧ Below w.heap.size w w' := by
  have hu := Try.underlying64
  have hpu := Try.underlying26
  have hfd := field5_x
  go_enter Try.func70, Try.ntmps70
  go_wp2_with fail
  refine (one_x w).mono ?_
  rintro e w1 ⟨oA5, oc5, oA6, oc6, oA7, oc7, oA8, oc8, rfl, hh, hb⟩
  have B := Aside0.mk hb
  have O := Aside0.mk hh
  clear hb hh
  go_wp2_with fail
  refine (pairs_x _ _ O.out).mono ?_
  rintro e w2 ⟨pA, pc, rfl, hh, hb⟩
  replace B := Aside0.mk (below_then B.out B.out.size hb)
  replace O := Aside0.mk (O.out.below hb)
  have P := Aside0.mk hh
  clear hb hh
  go_wp2_with fail
  refine (one_x _).mono ?_
  rintro e w3 ⟨qA5, qc5, qA6, qc6, qA7, qc7, qA8, qc8, rfl, hh, hb⟩
  replace B := Aside0.mk (below_then B.out B.out.size hb)
  replace O := Aside0.mk (O.out.below hb)
  replace P := Aside0.mk (P.out.below hb)
  have Q := Aside0.mk hh
  clear hb hh
  go_wp2_with fail
  refine (canon_x _ _ Q.out).mono ?_
  rintro e w4 ⟨cA5, cc5, cA6, cc6, cA7, cc7, cA8, cc8, rfl, hh, hb⟩
  replace B := Aside0.mk (below_then B.out B.out.size hb)
  replace O := Aside0.mk (O.out.below hb)
  replace P := Aside0.mk (P.out.below hb)
  replace Q := Aside0.mk (Q.out.below hb)
  have C := Aside0.mk hh
  clear hb hh
  go_wp2_with fail
  refine (one_x _).mono ?_
  rintro e W5 ⟨bA5, bc5, bA6, bc6, bA7, bc7, bA8, bc8, rfl, hh, hb⟩
  have hb0 := hb
  have hb := below_then (below_alloc (Below.refl w4.heap.size w4) (.cells #[.int .i64 0, .int .u64 1, .int .u64 1, .int .u64 6, .int .u64 0, .slice cA5 1 cc5, .slice cA6 0 cc6, .slice cA7 1 cc7, .slice cA8 0 cc8] 64)) ((below_alloc (Below.refl w4.heap.size w4) (.cells #[.int .i64 0, .int .u64 1, .int .u64 1, .int .u64 6, .int .u64 0, .slice cA5 1 cc5, .slice cA6 0 cc6, .slice cA7 1 cc7, .slice cA8 0 cc8] 64))).size hb
  replace B := Aside0.mk (below_then B.out B.out.size hb)
  replace O := Aside0.mk (O.out.below hb)
  replace P := Aside0.mk (P.out.below hb)
  replace Q := Aside0.mk (Q.out.below hb)
  replace C := Aside0.mk (C.out.below hb)
  have T3 := Aside0.mk (show Blk W5 w4.heap.size #[.int .i64 0, .int .u64 1, .int .u64 1, .int .u64 6, .int .u64 0, .slice cA5 1 cc5, .slice cA6 0 cc6, .slice cA7 1 cc7, .slice cA8 0 cc8] 64 from (Blk.new w4 #[.int .i64 0, .int .u64 1, .int .u64 1, .int .u64 6, .int .u64 0, .slice cA5 1 cc5, .slice cA6 0 cc6, .slice cA7 1 cc7, .slice cA8 0 cc8] 64).below hb0)
  have ht3 := fun i => T3.out.cell i
  have D := Aside0.mk hh
  clear hb hb0 hh
  have hbw := below_alloc (Below.refl W5.heap.size W5) (.cells #[.int .i64 0, .int .u64 1, .int .u64 1, .int .u64 7, .int .u64 0, .slice bA5 1 bc5, .slice bA6 0 bc6, .slice bA7 2 bc7, .slice bA8 0 bc8] 64)
  have hP := P.out.below hbw
  obtain ⟨_, _, eP, _, hPC⟩ := hP
  cases eP
  obtain ⟨ad, e1, hx0, hx1⟩ := at_T26 hPC 0 (by decide) (by decide)
  obtain ⟨ad', e1', hy0, hy1⟩ := at_T26 hPC 1 (by decide) (by decide)
  subst e1
  cases e1'
  have hx1' : (W5.alloc (.cells #[.int .i64 0, .int .u64 1, .int .u64 1, .int .u64 7, .int .u64 0, .slice bA5 1 bc5, .slice bA6 0 bc6, .slice bA7 2 bc7, .slice bA8 0 bc8] 64)).cell? ⟨ad.block, ad.off + 1, none⟩ = some (.int .i64 5) := hx1
  have hy0' : (W5.alloc (.cells #[.int .i64 0, .int .u64 1, .int .u64 1, .int .u64 7, .int .u64 0, .slice bA5 1 bc5, .slice bA6 0 bc6, .slice bA7 2 bc7, .slice bA8 0 bc8] 64)).cell? ⟨ad.block, ad.off + 2, none⟩ = some (.int .i64 4) := hy0
  clear hx0 hx1 hy0 hy1 hPC hbw
  replace ht3 := fun i => (T3.out.alloc (.cells #[.int .i64 0, .int .u64 1, .int .u64 1, .int .u64 7, .int .u64 0, .slice bA5 1 bc5, .slice bA6 0 bc6, .slice bA7 2 bc7, .slice bA8 0 bc8] 64)).cell i
  go_wp2_with fail
  refine (check_x badH badH_wf 22 aw09_3 _ _ (D.out.bad.below (below_alloc (Below.refl W5.heap.size W5) (.cells #[.int .i64 0, .int .u64 1, .int .u64 1, .int .u64 7, .int .u64 0, .slice bA5 1 bc5, .slice bA6 0 bc6, .slice bA7 2 bc7, .slice bA8 0 bc8] 64)))).mono ?_
  rintro e W6 ⟨rfl, hb⟩
  have hb0 := hb
  have hb := below_then (below_alloc (Below.refl W5.heap.size W5) (.cells #[.int .i64 0, .int .u64 1, .int .u64 1, .int .u64 7, .int .u64 0, .slice bA5 1 bc5, .slice bA6 0 bc6, .slice bA7 2 bc7, .slice bA8 0 bc8] 64)) ((below_alloc (Below.refl W5.heap.size W5) (.cells #[.int .i64 0, .int .u64 1, .int .u64 1, .int .u64 7, .int .u64 0, .slice bA5 1 bc5, .slice bA6 0 bc6, .slice bA7 2 bc7, .slice bA8 0 bc8] 64))).size hb
  replace B := Aside0.mk (below_then B.out B.out.size hb)
  replace O := Aside0.mk (O.out.below hb)
  replace P := Aside0.mk (P.out.below hb)
  replace Q := Aside0.mk (Q.out.below hb)
  replace C := Aside0.mk (C.out.below hb)
  replace D := Aside0.mk (D.out.below hb)
  replace T3 := Aside0.mk (T3.out.below hb)
  replace ht3 := fun i => T3.out.cell i
  have T5 := Aside0.mk (show Blk W6 W5.heap.size #[.int .i64 0, .int .u64 1, .int .u64 1, .int .u64 7, .int .u64 0, .slice bA5 1 bc5, .slice bA6 0 bc6, .slice bA7 2 bc7, .slice bA8 0 bc8] 64 from (Blk.new W5 #[.int .i64 0, .int .u64 1, .int .u64 1, .int .u64 7, .int .u64 0, .slice bA5 1 bc5, .slice bA6 0 bc6, .slice bA7 2 bc7, .slice bA8 0 bc8] 64).below hb0)
  have ht5 := fun i => T5.out.cell i
  have Bd := Aside0.mk (D.out.bad)
  clear hb hb0
  go_wp2_with fail
  refine (one_x _).mono ?_
  rintro e W7 ⟨eA5, ec5, eA6, ec6, eA7, ec7, eA8, ec8, rfl, hh, hb⟩
  replace B := Aside0.mk (below_then B.out B.out.size hb)
  replace O := Aside0.mk (O.out.below hb)
  replace P := Aside0.mk (P.out.below hb)
  replace Q := Aside0.mk (Q.out.below hb)
  replace C := Aside0.mk (C.out.below hb)
  replace D := Aside0.mk (D.out.below hb)
  replace Bd := Aside0.mk (Bd.out.below hb)
  replace T3 := Aside0.mk (T3.out.below hb)
  replace ht3 := fun i => T3.out.cell i
  replace T5 := Aside0.mk (T5.out.below hb)
  replace ht5 := fun i => T5.out.cell i
  have E := Aside0.mk hh
  clear hb hh
  go_wp2_with fail
  refine (make_x _ _ _ E.out P.out).mono ?_
  rintro e W8 ⟨mA5, mc5, mA6, mc6, mA7, mc7, mA8, mc8, rfl, hh, hb⟩
  replace B := Aside0.mk (below_then B.out B.out.size hb)
  replace O := Aside0.mk (O.out.below hb)
  replace P := Aside0.mk (P.out.below hb)
  replace Q := Aside0.mk (Q.out.below hb)
  replace C := Aside0.mk (C.out.below hb)
  replace D := Aside0.mk (D.out.below hb)
  replace Bd := Aside0.mk (Bd.out.below hb)
  replace E := Aside0.mk (E.out.below hb)
  replace T3 := Aside0.mk (T3.out.below hb)
  replace ht3 := fun i => T3.out.cell i
  replace T5 := Aside0.mk (T5.out.below hb)
  replace ht5 := fun i => T5.out.cell i
  have M := Aside0.mk hh
  clear hb hh
  have hw := below_alloc (Below.refl W8.heap.size W8) (.cells #[.int .i64 0, .int .u64 1, .int .u64 1, .int .u64 6, .int .u64 0, .slice mA5 1 mc5, .slice mA6 0 mc6, .slice mA7 2 mc7, .slice mA8 0 mc8] 64)
  replace B := Aside0.mk (below_then B.out B.out.size hw)
  replace C := Aside0.mk (C.out.below hw)
  replace Bd := Aside0.mk (Bd.out.below hw)
  replace M := Aside0.mk (M.out.below hw)
  replace T3 := Aside0.mk (T3.out.below hw)
  replace T5 := Aside0.mk (T5.out.below hw)
  have T6 := Aside0.mk (Blk.new W8 #[.int .i64 0, .int .u64 1, .int .u64 1, .int .u64 6, .int .u64 0, .slice mA5 1 mc5, .slice mA6 0 mc6, .slice mA7 2 mc7, .slice mA8 0 mc8] 64)
  replace ht3 := fun i => T3.out.cell i
  clear hw ht5 hx1' hy0'
  go_upto_region 8 with fail
  go_cut [8, 9] (fun s8 s9 wx => s9 = .int .i64 0 ∧ ∃ g : Nat, s8 = .pointer (some ⟨g, 0, none⟩) ∧ Aside0 ((W8.alloc (.cells #[.int .i64 0, .int .u64 1, .int .u64 1, .int .u64 6, .int .u64 0, .slice mA5 1 mc5, .slice mA6 0 mc6, .slice mA7 2 mc7, .slice mA8 0 mc8] 64)).heap.size ≤ g ∧ Below (W8.alloc (.cells #[.int .i64 0, .int .u64 1, .int .u64 1, .int .u64 6, .int .u64 0, .slice mA5 1 mc5, .slice mA6 0 mc6, .slice mA7 2 mc7, .slice mA8 0 mc8] 64)).heap.size (W8.alloc (.cells #[.int .i64 0, .int .u64 1, .int .u64 1, .int .u64 6, .int .u64 0, .slice mA5 1 mc5, .slice mA6 0 mc6, .slice mA7 2 mc7, .slice mA8 0 mc8] 64)) wx ∧ ∃ rA5 rc5 rA6 rc6 rA7 rc7 rA8 rc8, Blk wx g #[.int .i64 0, .int .u64 1, .int .u64 1, .int .u64 6, .int .u64 0, .slice rA5 1 rc5, .slice rA6 0 rc6, .slice rA7 2 rc7, .slice rA8 0 rc8] 64 ∧ HI wx (.agg #[.int .i64 0, .int .u64 1, .int .u64 1, .int .u64 6, .int .u64 0, .slice rA5 1 rc5, .slice rA6 0 rc6, .slice rA7 2 rc7, .slice rA8 0 rc8]) oneH))
  case first =>
    have ht3a := fun i => (T3.out.alloc (.cells #[.int .i64 0, .int .u64 0, .int .u64 0, .int .u64 0, .int .u64 0, .slice none 0 0, .slice none 0 0, .slice none 0 0, .slice none 0 0] 64)).cell i
    go_region_with (first | (go_at_call 149; (with_reducible refine (one_x (W8.alloc (.cells #[.int .i64 0, .int .u64 1, .int .u64 1, .int .u64 6, .int .u64 0, .slice mA5 1 mc5, .slice mA6 0 mc6, .slice mA7 2 mc7, .slice mA8 0 mc8] 64)).drew).mono ?_); rintro e W9 ⟨fA5, fc5, fA6, fc6, fA7, fc7, fA8, fc8, rfl, hh, hb⟩; have F := Aside0.mk hh; have B9 := Aside0.mk (below_then (below_drew (Below.refl (W8.alloc (.cells #[.int .i64 0, .int .u64 1, .int .u64 1, .int .u64 6, .int .u64 0, .slice mA5 1 mc5, .slice mA6 0 mc6, .slice mA7 2 mc7, .slice mA8 0 mc8] 64)).heap.size (W8.alloc (.cells #[.int .i64 0, .int .u64 1, .int .u64 1, .int .u64 6, .int .u64 0, .slice mA5 1 mc5, .slice mA6 0 mc6, .slice mA7 2 mc7, .slice mA8 0 mc8] 64)))) (Nat.le_refl _) hb); replace ht3 := fun i => (T3.out.below B9.out).cell i; have ht3b := fun i => ((T3.out.below B9.out).alloc (.cells #[.int .i64 0, .int .u64 0, .int .u64 0, .int .u64 0, .int .u64 0, .slice none 0 0, .slice none 0 0, .slice none 0 0, .slice none 0 0] 64)).cell i; clear hh hb) | (go_at_call 149; (with_reducible refine (one_x ((W8.alloc (.cells #[.int .i64 0, .int .u64 1, .int .u64 1, .int .u64 6, .int .u64 0, .slice mA5 1 mc5, .slice mA6 0 mc6, .slice mA7 2 mc7, .slice mA8 0 mc8] 64)).alloc (.cells #[.int .i64 0, .int .u64 0, .int .u64 0, .int .u64 0, .int .u64 0, .slice none 0 0, .slice none 0 0, .slice none 0 0, .slice none 0 0] 64)).drew).mono ?_); rintro e W9 ⟨fA5, fc5, fA6, fc6, fA7, fc7, fA8, fc8, rfl, hh, hb⟩; have F := Aside0.mk hh; have B9 := Aside0.mk (below_then (below_drew (below_alloc (Below.refl (W8.alloc (.cells #[.int .i64 0, .int .u64 1, .int .u64 1, .int .u64 6, .int .u64 0, .slice mA5 1 mc5, .slice mA6 0 mc6, .slice mA7 2 mc7, .slice mA8 0 mc8] 64)).heap.size (W8.alloc (.cells #[.int .i64 0, .int .u64 1, .int .u64 1, .int .u64 6, .int .u64 0, .slice mA5 1 mc5, .slice mA6 0 mc6, .slice mA7 2 mc7, .slice mA8 0 mc8] 64))) (.cells #[.int .i64 0, .int .u64 0, .int .u64 0, .int .u64 0, .int .u64 0, .slice none 0 0, .slice none 0 0, .slice none 0 0, .slice none 0 0] 64))) (by simp) hb); have Z9 := Aside0.mk (show Blk W9 (W8.heap.size + 1) #[.int .i64 0, .int .u64 0, .int .u64 0, .int .u64 0, .int .u64 0, .slice none 0 0, .slice none 0 0, .slice none 0 0, .slice none 0 0] 64 from (show Blk ((W8.alloc (.cells #[.int .i64 0, .int .u64 1, .int .u64 1, .int .u64 6, .int .u64 0, .slice mA5 1 mc5, .slice mA6 0 mc6, .slice mA7 2 mc7, .slice mA8 0 mc8] 64)).alloc (.cells #[.int .i64 0, .int .u64 0, .int .u64 0, .int .u64 0, .int .u64 0, .slice none 0 0, .slice none 0 0, .slice none 0 0, .slice none 0 0] 64)) (W8.heap.size + 1) #[.int .i64 0, .int .u64 0, .int .u64 0, .int .u64 0, .int .u64 0, .slice none 0 0, .slice none 0 0, .slice none 0 0, .slice none 0 0] 64 from Blk.at1 (w := W8) (.cells #[.int .i64 0, .int .u64 1, .int .u64 1, .int .u64 6, .int .u64 0, .slice mA5 1 mc5, .slice mA6 0 mc6, .slice mA7 2 mc7, .slice mA8 0 mc8] 64) #[.int .i64 0, .int .u64 0, .int .u64 0, .int .u64 0, .int .u64 0, .slice none 0 0, .slice none 0 0, .slice none 0 0, .slice none 0 0] 64).below (below_then (below_drew (Below.refl _ _)) (Nat.le_refl _) hb)); have HL9 := Aside0.mk (blk_lt Z9.out); replace ht3 := fun i => (T3.out.below B9.out).cell i; clear hh hb) | (go_at_call 83; (with_reducible refine (over_x W9 _ _ (C.out.below B9.out) F.out.spans).mono ?_); rintro e W10 ⟨rA5, rc5, rA6, rc6, rA7, rc7, rA8, rc8, rfl, hh, hb⟩; have R := Aside0.mk hh; have B10 := Aside0.mk (below_then B9.out B9.out.size hb); (try (replace Z9 := Aside0.mk (Z9.out.below hb); have hz := fun i => Z9.out.cell i; have hzf := fun i => blk_frozen Z9.out i)); replace ht3 := fun i => (T3.out.below B10.out).cell i; clear hh hb) | (go_at_call 83; (with_reducible refine (over_x (W9.alloc (.cells #[.int .i64 0, .int .u64 0, .int .u64 0, .int .u64 0, .int .u64 0, .slice none 0 0, .slice none 0 0, .slice none 0 0, .slice none 0 0] 64)) _ _ (C.out.below (below_then B9.out B9.out.size (below_alloc (Below.refl _ _) _))) (F.out.below (below_alloc (Below.refl _ _) _)).spans).mono ?_); rintro e W10 ⟨rA5, rc5, rA6, rc6, rA7, rc7, rA8, rc8, rfl, hh, hb⟩; have R := Aside0.mk hh; have B10 := Aside0.mk (below_then (below_then B9.out B9.out.size (below_alloc (Below.refl _ _) _)) (below_then B9.out B9.out.size (below_alloc (Below.refl _ _) _)).size hb); have Z9 := Aside0.mk (show Blk W10 W9.heap.size #[.int .i64 0, .int .u64 0, .int .u64 0, .int .u64 0, .int .u64 0, .slice none 0 0, .slice none 0 0, .slice none 0 0, .slice none 0 0] 64 from (Blk.new W9 #[.int .i64 0, .int .u64 0, .int .u64 0, .int .u64 0, .int .u64 0, .slice none 0 0, .slice none 0 0, .slice none 0 0, .slice none 0 0] 64).below hb); have hz := fun i => Z9.out.cell i; have hzf := fun i => blk_frozen Z9.out i; replace ht3 := fun i => (T3.out.below B10.out).cell i; clear hh hb))
    all_goals go_wp2_with fail
    all_goals go_meet
    all_goals (first | exact ⟨rfl, _, rfl, ⟨B10.out.size, B10.out.alloc B10.out.size _, _, _, _, _, _, _, _, _, Blk.new W10 _ _, R.out.now.below (below_alloc (Below.refl _ _) _)⟩⟩ | exact ⟨rfl, _, rfl, ⟨B9.out.size, nine_below B10.out B9.out.size _ _ _ _ _ _ _ _ _, _, _, _, _, _, _, _, _, nine Z9.out _ _ _ _ _ _ _ _ _, (R.out.step (nine_ka (KA.refl _ _) (by simp) _ _ _ _ _ _ _ _ _)).now⟩⟩ | exact ⟨rfl, _, rfl, ⟨by simp, nine_below B10.out (by simp) _ _ _ _ _ _ _ _ _, _, _, _, _, _, _, _, _, nine Z9.out _ _ _ _ _ _ _ _ _, (R.out.step (nine_ka (KA.refl _ _) HL9.out _ _ _ _ _ _ _ _ _)).now⟩⟩)
  case rest =>
    obtain ⟨rfl, g, rfl, HG⟩ := hcut
    obtain ⟨hg, hbb, rA5, rc5, rA6, rc6, rA7, rc7, rA8, rc8, t8, hr⟩ := HG.out
    replace B := Aside0.mk (below_then B.out B.out.size hbb)
    replace C := Aside0.mk (C.out.below hbb)
    replace Bd := Aside0.mk (Bd.out.below hbb)
    replace M := Aside0.mk (M.out.below hbb)
    have R := Aside0.mk hr
    replace T3 := Aside0.mk (T3.out.below hbb)
    replace T5 := Aside0.mk (T5.out.below hbb)
    replace T6 := Aside0.mk (T6.out.below hbb)
    have T8 := Aside0.mk t8
    replace ht3 := fun i => T3.out.cell i
    have ht5 := fun i => T5.out.cell i
    have ht6 := fun i => T6.out.cell i
    have ht8 := fun i => T8.out.cell i
    clear hg hbb t8 hr HG
    go_wp2_with fail
    go_region_held3 (fun W => (∀ i, W.cell? ⟨w4.heap.size, i, none⟩ = (#[.int .i64 0, .int .u64 1, .int .u64 1, .int .u64 6, .int .u64 0, .slice cA5 1 cc5, .slice cA6 0 cc6, .slice cA7 1 cc7, .slice cA8 0 cc8] : Array Value)[i]?) ∧ (∀ i, W.cell? ⟨W5.heap.size, i, none⟩ = (#[.int .i64 0, .int .u64 1, .int .u64 1, .int .u64 7, .int .u64 0, .slice bA5 1 bc5, .slice bA6 0 bc6, .slice bA7 2 bc7, .slice bA8 0 bc8] : Array Value)[i]?) ∧ (∀ i, W.cell? ⟨W8.heap.size, i, none⟩ = (#[.int .i64 0, .int .u64 1, .int .u64 1, .int .u64 6, .int .u64 0, .slice mA5 1 mc5, .slice mA6 0 mc6, .slice mA7 2 mc7, .slice mA8 0 mc8] : Array Value)[i]?) ∧ (∀ i, W.cell? ⟨g, i, none⟩ = (#[.int .i64 0, .int .u64 1, .int .u64 1, .int .u64 6, .int .u64 0, .slice rA5 1 rc5, .slice rA6 0 rc6, .slice rA7 2 rc7, .slice rA8 0 rc8] : Array Value)[i]?)) (exact ⟨fun i => T3.out.cell i, fun i => T5.out.cell i, fun i => T6.out.cell i, fun i => T8.out.cell i⟩) (first | (go_at_call 149; (with_reducible refine (one_x wc.drew).mono ?_); rintro e V1 ⟨xA5, xc5, xA6, xc6, xA7, xc7, xA8, xc8, rfl, hh, hb⟩; have hb0 := hb; have hb := below_then (below_drew (Below.refl wc.heap.size wc)) ((below_drew (Below.refl wc.heap.size wc))).size hb; replace B := Aside0.mk (below_then B.out B.out.size hb); replace C := Aside0.mk (C.out.below hb); replace Bd := Aside0.mk (Bd.out.below hb); replace M := Aside0.mk (M.out.below hb); replace R := Aside0.mk (R.out.below hb); replace T3 := Aside0.mk (T3.out.below hb); replace ht3 := fun i => T3.out.cell i; replace T5 := Aside0.mk (T5.out.below hb); replace ht5 := fun i => T5.out.cell i; replace T6 := Aside0.mk (T6.out.below hb); replace ht6 := fun i => T6.out.cell i; replace T8 := Aside0.mk (T8.out.below hb); replace ht8 := fun i => T8.out.cell i; have X1 := Aside0.mk hh; clear hb hb0 hh) | (go_at_call 80; (with_reducible refine (equal_x oneH oneH oneH_wf oneH_wf true aw09_6 V1 _ _ M.out X1.out).mono ?_); rintro e V2 ⟨rfl, hb⟩; replace B := Aside0.mk (below_then B.out B.out.size hb); replace C := Aside0.mk (C.out.below hb); replace Bd := Aside0.mk (Bd.out.below hb); replace M := Aside0.mk (M.out.below hb); replace R := Aside0.mk (R.out.below hb); replace X1 := Aside0.mk (X1.out.below hb); replace T3 := Aside0.mk (T3.out.below hb); replace ht3 := fun i => T3.out.cell i; replace T5 := Aside0.mk (T5.out.below hb); replace ht5 := fun i => T5.out.cell i; replace T6 := Aside0.mk (T6.out.below hb); replace ht6 := fun i => T6.out.cell i; replace T8 := Aside0.mk (T8.out.below hb); replace ht8 := fun i => T8.out.cell i; clear hb) | (go_at_call 80; (with_reducible refine (equal_x oneH canH oneH_wf canH_wf true aw09_7 V2 _ _ R.out C.out).mono ?_); rintro e V3 ⟨rfl, hb⟩; replace B := Aside0.mk (below_then B.out B.out.size hb); replace C := Aside0.mk (C.out.below hb); replace Bd := Aside0.mk (Bd.out.below hb); replace M := Aside0.mk (M.out.below hb); replace R := Aside0.mk (R.out.below hb); replace T3 := Aside0.mk (T3.out.below hb); replace ht3 := fun i => T3.out.cell i; replace T5 := Aside0.mk (T5.out.below hb); replace ht5 := fun i => T5.out.cell i; replace T6 := Aside0.mk (T6.out.below hb); replace ht6 := fun i => T6.out.cell i; replace T8 := Aside0.mk (T8.out.below hb); replace ht8 := fun i => T8.out.cell i; clear hb) | (go_at_call 149; (with_reducible refine (one_x V3).mono ?_); rintro e V4 ⟨yA5, yc5, yA6, yc6, yA7, yc7, yA8, yc8, rfl, hh, hb⟩; replace B := Aside0.mk (below_then B.out B.out.size hb); replace C := Aside0.mk (C.out.below hb); replace Bd := Aside0.mk (Bd.out.below hb); replace M := Aside0.mk (M.out.below hb); replace R := Aside0.mk (R.out.below hb); replace T3 := Aside0.mk (T3.out.below hb); replace ht3 := fun i => T3.out.cell i; replace T5 := Aside0.mk (T5.out.below hb); replace ht5 := fun i => T5.out.cell i; replace T6 := Aside0.mk (T6.out.below hb); replace ht6 := fun i => T6.out.cell i; replace T8 := Aside0.mk (T8.out.below hb); replace ht8 := fun i => T8.out.cell i; have X4 := Aside0.mk hh; clear hb hh) | (go_at_call 80; (with_reducible refine (equal_x oneH badH oneH_wf badH_wf false aw09_8 V4 _ _ X4.out Bd.out).mono ?_); rintro e V5 ⟨rfl, hb⟩; replace B := Aside0.mk (below_then B.out B.out.size hb); replace C := Aside0.mk (C.out.below hb); replace Bd := Aside0.mk (Bd.out.below hb); replace M := Aside0.mk (M.out.below hb); replace R := Aside0.mk (R.out.below hb); replace X4 := Aside0.mk (X4.out.below hb); replace T3 := Aside0.mk (T3.out.below hb); replace ht3 := fun i => T3.out.cell i; replace T5 := Aside0.mk (T5.out.below hb); replace ht5 := fun i => T5.out.cell i; replace T6 := Aside0.mk (T6.out.below hb); replace ht6 := fun i => T6.out.cell i; replace T8 := Aside0.mk (T8.out.below hb); replace ht8 := fun i => T8.out.cell i; clear hb) | (go_at_call 72; (with_reducible refine (hist_NaN.calls _ _ V5 aw09_9).mono ?_); rintro e V6 ⟨rfl, hb0⟩; have hb := hb0.below; replace B := Aside0.mk (below_then B.out B.out.size hb); replace C := Aside0.mk (C.out.below hb); replace Bd := Aside0.mk (Bd.out.below hb); replace M := Aside0.mk (M.out.below hb); replace R := Aside0.mk (R.out.below hb); replace T3 := Aside0.mk (T3.out.below hb); replace ht3 := fun i => T3.out.cell i; replace T5 := Aside0.mk (T5.out.below hb); replace ht5 := fun i => T5.out.cell i; replace T6 := Aside0.mk (T6.out.below hb); replace ht6 := fun i => T6.out.cell i; replace T8 := Aside0.mk (T8.out.below hb); replace ht8 := fun i => T8.out.cell i; clear hb; clear hb0) | (go_at_call 74; (with_reducible refine (hist_Threshold.calls _ _ V6 aw09_10).mono ?_); rintro e V7 ⟨rfl, hb0⟩; have hb := hb0.below; replace B := Aside0.mk (below_then B.out B.out.size hb); replace C := Aside0.mk (C.out.below hb); replace Bd := Aside0.mk (Bd.out.below hb); replace M := Aside0.mk (M.out.below hb); replace R := Aside0.mk (R.out.below hb); replace T3 := Aside0.mk (T3.out.below hb); replace ht3 := fun i => T3.out.cell i; replace T5 := Aside0.mk (T5.out.below hb); replace ht5 := fun i => T5.out.cell i; replace T6 := Aside0.mk (T6.out.below hb); replace ht6 := fun i => T6.out.cell i; replace T8 := Aside0.mk (T8.out.below hb); replace ht8 := fun i => T8.out.cell i; clear hb; clear hb0))
    all_goals go_wp2
    all_goals go_ret
    all_goals exact ⟨rfl, B.out⟩
end Go.Proofs.Ytacgeafjilipdaa.P
namespace Go.Proofs.Ytacgeafjilipdaa.P
open Go.RowKit Go.Shelf Go.Proofs.YtacgeafjilipdaaW.PrintWords Go.Proofs.YtacgeafjilipdaaW.PrintLast Go.Proofs.YtacgeafjilipdaaW.PrintMore
set_option linter.unusedVariables false
set_option linter.unusedSimpArgs false
def wfI (h : Hi) : Prop := i64 h.f0 ∧ u64 h.f1 ∧ u64 h.f2 ∧ u64 h.f3 ∧ u64 h.f4 ∧ wfSps h.f5 ∧ wfSps h.f6 ∧ i64s h.f7 ∧ i64s h.f8
instance (h : Hi) : Decidable (wfI h) := by unfold wfI; exact inferInstance
theorem wfH_of {h : Hi} (x : wfI h) (h7 : h.f7.length ≤ 300) (h8 : h.f8.length ≤ 300) : wfH h := ⟨x.1, x.2.1, x.2.2.1, x.2.2.2.1, x.2.2.2.2.1, x.2.2.2.2.2.1, x.2.2.2.2.2.2.1, x.2.2.2.2.2.2.2.1, x.2.2.2.2.2.2.2.2, by omega, by omega⟩
theorem wfI_of {x : S64} (h : wf64 x) : wfI x := ⟨i64_of h.1, u64_of h.2.1, u64_of h.2.2.1, u64_of h.2.2.2.1, u64_of h.2.2.2.2.1, wfSps_of h.2.2.2.2.2.1, wfSps_of h.2.2.2.2.2.2.1, i64_all h.2.2.2.2.2.2.2.1, i64_all h.2.2.2.2.2.2.2.2⟩
end Go.Proofs.Ytacgeafjilipdaa.P
namespace Go.Proofs.Ytacgeafjilipdaa.P
open Go.RowKit Go.Shelf Go.Proofs.YtacgeafjilipdaaW.PrintWords Go.Proofs.YtacgeafjilipdaaW.PrintLast Go.Proofs.YtacgeafjilipdaaW.PrintMore
set_option linter.unusedVariables false
set_option linter.unusedSimpArgs false
theorem SI.nil_ {α : Type} {d : Kd α} {w : World} {v : Value} (h : SI d w v []) : ∃ A c, v = .slice A 0 c := by obtain ⟨A, c, e, _⟩ := h; exact ⟨A, c, e⟩
theorem like_c (l : List Pr) (hl : l.length ≤ 4096) (w : World) (u v x : Value) (hu : SI kPr w u l) (hv : SI (Kd.int .i64) w v (l.map (·.f0))) (hx : SI (Kd.int .i64) w x (l.map (·.f1))) : Calls Try.prog 79 #[u, v, x] w fun e w' => e = .returned (.bool true) ∧ Below w.heap.size w w' := by
  obtain ⟨A, c, rfl, hc, hr⟩ := hu
  obtain ⟨A1, c1, rfl, hc1, hr1⟩ := hv
  obtain ⟨A2, c2, rfl, hc2, hr2⟩ := hx
  exact (tidepolelaw09_like.calls (l.length + 2) A c l A1 c1 _ A2 c2 _ true w hr hc hr1 hc1 hr2 hc2 (like_eq l (by omega) _ (by omega))).mono fun e w1 h => ⟨h.1, h.2.below⟩
set_option maxHeartbeats 16000000 in
set_option maxRecDepth 100000 in
theorem histPairs_0 (h : Hi) (hW : wfH h) (n5 : h.f5.length ≤ 400) (n6 : h.f6.length ≤ 400) (cs : ∀ (w : World) (v : Value), HI w v h → Calls Try.prog 69 #[v] w fun e w' => e = .returned (.bool true) ∧ Below w.heap.size w w') (w : World) (u : Value) (hu : HI w u h) : Calls Try.prog 14 #[u, .int .i64 0] w fun e w' => e = .returned (.bool true) ∧ Below w.heap.size w w' := by
  have hud := Try.underlying64
  have cp := pairs_c h hW 0
  rw [show pairsR h 0 = ((openR h).1, checkR h) from rfl] at cp
  have cr := ref_c h (by omega) (by omega)
  have cc := refCheck_c h hW
  have hwr := @openR_wrong h
  have hri := @openR_right h
  have hrow := (openR_row hW).1
  have c5 := spans_c h.f5 (by omega)
  have c6 := spans_c h.f6 (by omega)
  obtain ⟨w0, w1, w2, w3, w4, w5, w6, w7, w8, w9, w10⟩ := hW
  have g5 := refSide_c h.f5 h.f7 w5 w7 w9
  have g6 := refSide_c h.f6 h.f8 w6 w8 w10
  have cl := like_c (openR h).1 hrow.len
  have hs : checkR h = 0 → (openR h).1 = (sideRes h.f5 h.f7).1 := fun e => by rw [hri e]
  replace hwr : checkR h ≠ 0 → (openR h).1 = [] := fun e => (hwr e).1
  unfold sideRef at g5 g6
  clear hri hrow w0 w1 w2 w3 w4 w5 w6 w7 w8 w9 w10
  generalize (openR h).1 = p at *
  generalize checkR h = r at *
  have CS := Aside0.mk cs
  have CR := Aside0.mk cr
  have CC := Aside0.mk cc
  have C5 := Aside0.mk c5
  have C6 := Aside0.mk c6
  clear cs cr cc c5 c6 n5 n6
  by_cases c : r = 0
  rotate_left
  · have hp := hwr c
    subst hp
    have d : (r != 0) = true := bne_iff_ne.2 c
    clear hs hwr cl g5 g6 c
    have CP : Aside0 (∀ (w : World) (v : Value), HI w v h → Calls Try.prog 76 #[v, .int .i64 0] w fun e w' => ∃ v0, e = .returned (.tuple #[v0, .int .i64 r]) ∧ SI kPr w' v0 [] ∧ Below w.heap.size w w') := ⟨cp⟩
    clear cp
    obtain ⟨A5, c5, A6, c6, A7, c7, A8, c8, e, h5, h6, h7, h8⟩ := hu.open_
    subst e
    have B := Aside0.mk (below_alloc (Below.refl w.heap.size w) (.cells #[.int .i64 h.f0, .int .u64 h.f1, .int .u64 h.f2, .int .u64 h.f3, .int .u64 h.f4, .slice A5 h.f5.length c5, .slice A6 h.f6.length c6, .slice A7 h.f7.length c7, .slice A8 h.f8.length c8] 64))
    have X := Aside0.mk (Blk.new w #[.int .i64 h.f0, .int .u64 h.f1, .int .u64 h.f2, .int .u64 h.f3, .int .u64 h.f4, .slice A5 h.f5.length c5, .slice A6 h.f6.length c6, .slice A7 h.f7.length c7, .slice A8 h.f8.length c8] 64)
    have hx := fun i => X.out.cell i
    have HV := Aside0.mk (hu.below B.out)
    have H5 := Aside0.mk (h5.below B.out)
    have H6 := Aside0.mk (h6.below B.out)
    have H7 := Aside0.mk (h7.below B.out)
    have H8 := Aside0.mk (h8.below B.out)
    clear hu h5 h6 h7 h8
    go_enter Try.func14, Try.ntmps14
    go_wp2_with (first | (go_at_call 69; (with_reducible refine (CS.out _ _ HV.out).mono ?_); rintro e W1 ⟨rfl, hb⟩; replace B := Aside0.mk (below_then B.out B.out.size hb); replace HV := Aside0.mk (HV.out.below hb); replace H5 := Aside0.mk (H5.out.below hb); replace H6 := Aside0.mk (H6.out.below hb); replace H7 := Aside0.mk (H7.out.below hb); replace H8 := Aside0.mk (H8.out.below hb); replace X := Aside0.mk (X.out.below hb); replace hx := fun i => X.out.cell i; clear  hb) | (go_at_call 76; (with_reducible refine (CP.out _ _ HV.out).mono ?_); rintro e W2 ⟨v0, rfl, hl, hb⟩; replace B := Aside0.mk (below_then B.out B.out.size hb); replace HV := Aside0.mk (HV.out.below hb); replace H5 := Aside0.mk (H5.out.below hb); replace H6 := Aside0.mk (H6.out.below hb); replace H7 := Aside0.mk (H7.out.below hb); replace H8 := Aside0.mk (H8.out.below hb); replace X := Aside0.mk (X.out.below hb); replace hx := fun i => X.out.cell i; have L := Aside0.mk hl; have hl' := L.out; obtain ⟨LA, Lc, eL⟩ := hl'.nil_; subst eL; clear hl hb) | (go_at_call 71; (with_reducible refine (CR.out _ _ HV.out).mono ?_); rintro e W3 ⟨rv, rfl, hr, hb⟩; replace B := Aside0.mk (below_then B.out B.out.size hb); replace HV := Aside0.mk (HV.out.below hb); replace H5 := Aside0.mk (H5.out.below hb); replace H6 := Aside0.mk (H6.out.below hb); replace H7 := Aside0.mk (H7.out.below hb); replace H8 := Aside0.mk (H8.out.below hb); replace L := Aside0.mk (L.out.below hb); replace X := Aside0.mk (X.out.below hb); replace hx := fun i => X.out.cell i; have RV := Aside0.mk hr; clear hr hb) | (go_at_call 57; (with_reducible refine (CC.out _ _ RV.out).mono ?_); rintro e W4 ⟨rfl, hb⟩; replace B := Aside0.mk (below_then B.out B.out.size hb); replace HV := Aside0.mk (HV.out.below hb); replace H5 := Aside0.mk (H5.out.below hb); replace H6 := Aside0.mk (H6.out.below hb); replace H7 := Aside0.mk (H7.out.below hb); replace H8 := Aside0.mk (H8.out.below hb); replace L := Aside0.mk (L.out.below hb); replace RV := Aside0.mk (RV.out.below hb); replace X := Aside0.mk (X.out.below hb); replace hx := fun i => X.out.cell i; clear  hb) | (go_at_call 70; (with_reducible refine (awake09_c _).mono ?_); rintro e W5 ⟨rfl, hb⟩; replace B := Aside0.mk (below_then B.out B.out.size hb); replace HV := Aside0.mk (HV.out.below hb); replace H5 := Aside0.mk (H5.out.below hb); replace H6 := Aside0.mk (H6.out.below hb); replace H7 := Aside0.mk (H7.out.below hb); replace H8 := Aside0.mk (H8.out.below hb); replace L := Aside0.mk (L.out.below hb); replace RV := Aside0.mk (RV.out.below hb); replace X := Aside0.mk (X.out.below hb); replace hx := fun i => X.out.cell i; clear  hb))
    go_ret
    exact ⟨rfl, B.out⟩
  · subst c
    have hp := hs rfl
    subst hp
    have CP := Aside0.mk cp
    have CL := Aside0.mk cl
    have G5 := Aside0.mk g5
    have G6 := Aside0.mk g6
    clear cp cl g5 g6 hs hwr
    obtain ⟨A5, c5, A6, c6, A7, c7, A8, c8, e, h5, h6, h7, h8⟩ := hu.open_
    subst e
    have B := Aside0.mk (below_alloc (Below.refl w.heap.size w) (.cells #[.int .i64 h.f0, .int .u64 h.f1, .int .u64 h.f2, .int .u64 h.f3, .int .u64 h.f4, .slice A5 h.f5.length c5, .slice A6 h.f6.length c6, .slice A7 h.f7.length c7, .slice A8 h.f8.length c8] 64))
    have X := Aside0.mk (Blk.new w #[.int .i64 h.f0, .int .u64 h.f1, .int .u64 h.f2, .int .u64 h.f3, .int .u64 h.f4, .slice A5 h.f5.length c5, .slice A6 h.f6.length c6, .slice A7 h.f7.length c7, .slice A8 h.f8.length c8] 64)
    have hx := fun i => X.out.cell i
    have HV := Aside0.mk (hu.below B.out)
    have H5 := Aside0.mk (h5.below B.out)
    have H6 := Aside0.mk (h6.below B.out)
    have H7 := Aside0.mk (h7.below B.out)
    have H8 := Aside0.mk (h8.below B.out)
    clear hu h5 h6 h7 h8
    go_enter Try.func14, Try.ntmps14
    go_wp2_with (first | (go_at_call 69; (with_reducible refine (CS.out _ _ HV.out).mono ?_); rintro e W1 ⟨rfl, hb⟩; replace B := Aside0.mk (below_then B.out B.out.size hb); replace HV := Aside0.mk (HV.out.below hb); replace H5 := Aside0.mk (H5.out.below hb); replace H6 := Aside0.mk (H6.out.below hb); replace H7 := Aside0.mk (H7.out.below hb); replace H8 := Aside0.mk (H8.out.below hb); replace X := Aside0.mk (X.out.below hb); replace hx := fun i => X.out.cell i; clear  hb) | (go_at_call 76; (with_reducible refine (CP.out _ _ HV.out).mono ?_); rintro e W2 ⟨v0, rfl, hl, hb⟩; replace B := Aside0.mk (below_then B.out B.out.size hb); replace HV := Aside0.mk (HV.out.below hb); replace H5 := Aside0.mk (H5.out.below hb); replace H6 := Aside0.mk (H6.out.below hb); replace H7 := Aside0.mk (H7.out.below hb); replace H8 := Aside0.mk (H8.out.below hb); replace X := Aside0.mk (X.out.below hb); replace hx := fun i => X.out.cell i; have L := Aside0.mk hl; have hl' := L.out; obtain ⟨LA, Lc, eL, -⟩ := hl'; subst eL; clear hl hb) | (go_at_call 71; (with_reducible refine (CR.out _ _ HV.out).mono ?_); rintro e W3 ⟨rv, rfl, hr, hb⟩; replace B := Aside0.mk (below_then B.out B.out.size hb); replace HV := Aside0.mk (HV.out.below hb); replace H5 := Aside0.mk (H5.out.below hb); replace H6 := Aside0.mk (H6.out.below hb); replace H7 := Aside0.mk (H7.out.below hb); replace H8 := Aside0.mk (H8.out.below hb); replace L := Aside0.mk (L.out.below hb); replace X := Aside0.mk (X.out.below hb); replace hx := fun i => X.out.cell i; have RV := Aside0.mk hr; clear hr hb) | (go_at_call 57; (with_reducible refine (CC.out _ _ RV.out).mono ?_); rintro e W4 ⟨rfl, hb⟩; replace B := Aside0.mk (below_then B.out B.out.size hb); replace HV := Aside0.mk (HV.out.below hb); replace H5 := Aside0.mk (H5.out.below hb); replace H6 := Aside0.mk (H6.out.below hb); replace H7 := Aside0.mk (H7.out.below hb); replace H8 := Aside0.mk (H8.out.below hb); replace L := Aside0.mk (L.out.below hb); replace RV := Aside0.mk (RV.out.below hb); replace X := Aside0.mk (X.out.below hb); replace hx := fun i => X.out.cell i; clear  hb))
    replace HV := Aside0.mk (HV.out.below (below_drew (Below.refl _ _)))
    replace H5 := Aside0.mk (H5.out.below (below_drew (Below.refl _ _)))
    replace H6 := Aside0.mk (H6.out.below (below_drew (Below.refl _ _)))
    replace H7 := Aside0.mk (H7.out.below (below_drew (Below.refl _ _)))
    replace H8 := Aside0.mk (H8.out.below (below_drew (Below.refl _ _)))
    replace L := Aside0.mk (L.out.below (below_drew (Below.refl _ _)))
    replace RV := Aside0.mk (RV.out.below (below_drew (Below.refl _ _)))
    replace X := Aside0.mk (X.out.below (below_drew (Below.refl _ _)))
    replace B := Aside0.mk (below_drew B.out)
    go_region_held3 (fun W => ∀ i, W.cell? ⟨w.heap.size, i, none⟩ = (#[.int .i64 h.f0, .int .u64 h.f1, .int .u64 h.f2, .int .u64 h.f3, .int .u64 h.f4, .slice A5 h.f5.length c5, .slice A6 h.f6.length c6, .slice A7 h.f7.length c7, .slice A8 h.f8.length c8] : Array Value)[i]?) (exact fun i => X.out.cell i) (first | (go_at_call 78; (with_reducible refine (C5.out _ _ H5.out).mono ?_); rintro e W6 ⟨n5, rfl, hs, hb⟩; replace B := Aside0.mk (below_then B.out B.out.size hb); replace HV := Aside0.mk (HV.out.below hb); replace H5 := Aside0.mk (H5.out.below hb); replace H6 := Aside0.mk (H6.out.below hb); replace H7 := Aside0.mk (H7.out.below hb); replace H8 := Aside0.mk (H8.out.below hb); replace L := Aside0.mk (L.out.below hb); replace RV := Aside0.mk (RV.out.below hb); replace X := Aside0.mk (X.out.below hb); replace hx := fun i => X.out.cell i; have N5 := Aside0.mk hs; clear hs hb) | (go_at_call 77; (with_reducible refine (G5.out _ _ _ N5.out H7.out).mono ?_); rintro e W7 ⟨p1, q1, rfl, hp, hq, hb⟩; replace B := Aside0.mk (below_then B.out B.out.size hb); replace HV := Aside0.mk (HV.out.below hb); replace H5 := Aside0.mk (H5.out.below hb); replace H6 := Aside0.mk (H6.out.below hb); replace H7 := Aside0.mk (H7.out.below hb); replace H8 := Aside0.mk (H8.out.below hb); replace L := Aside0.mk (L.out.below hb); replace RV := Aside0.mk (RV.out.below hb); replace N5 := Aside0.mk (N5.out.below hb); replace X := Aside0.mk (X.out.below hb); replace hx := fun i => X.out.cell i; have P1 := Aside0.mk hp; have Q1 := Aside0.mk hq; clear hp hq hb))
    all_goals go_wp2_with (first | (go_at_call 79; (with_reducible refine (CL.out _ _ _ _ L.out P1.out Q1.out).mono ?_); rintro e W8 ⟨rfl, hb⟩; replace B := Aside0.mk (below_then B.out B.out.size hb); replace HV := Aside0.mk (HV.out.below hb); replace H5 := Aside0.mk (H5.out.below hb); replace H6 := Aside0.mk (H6.out.below hb); replace H7 := Aside0.mk (H7.out.below hb); replace H8 := Aside0.mk (H8.out.below hb); replace L := Aside0.mk (L.out.below hb); replace RV := Aside0.mk (RV.out.below hb); replace N5 := Aside0.mk (N5.out.below hb); replace P1 := Aside0.mk (P1.out.below hb); replace Q1 := Aside0.mk (Q1.out.below hb); replace X := Aside0.mk (X.out.below hb); replace hx := fun i => X.out.cell i; clear  hb) | (go_at_call 70; (with_reducible refine (awake09_c _).mono ?_); rintro e W9 ⟨rfl, hb⟩; replace B := Aside0.mk (below_then B.out B.out.size hb); replace HV := Aside0.mk (HV.out.below hb); replace H5 := Aside0.mk (H5.out.below hb); replace H6 := Aside0.mk (H6.out.below hb); replace H7 := Aside0.mk (H7.out.below hb); replace H8 := Aside0.mk (H8.out.below hb); replace L := Aside0.mk (L.out.below hb); replace RV := Aside0.mk (RV.out.below hb); replace N5 := Aside0.mk (N5.out.below hb); replace P1 := Aside0.mk (P1.out.below hb); replace Q1 := Aside0.mk (Q1.out.below hb); replace X := Aside0.mk (X.out.below hb); replace hx := fun i => X.out.cell i; clear  hb))
    all_goals go_ret
    all_goals exact ⟨rfl, B.out⟩
set_option maxHeartbeats 16000000 in
set_option maxRecDepth 100000 in
theorem histPairs_1 (h : Hi) (hW : wfH h) (n5 : h.f5.length ≤ 400) (n6 : h.f6.length ≤ 400) (cs : ∀ (w : World) (v : Value), HI w v h → Calls Try.prog 69 #[v] w fun e w' => e = .returned (.bool true) ∧ Below w.heap.size w w') (w : World) (u : Value) (hu : HI w u h) : Calls Try.prog 14 #[u, .int .i64 1] w fun e w' => e = .returned (.bool true) ∧ Below w.heap.size w w' := by
  have hud := Try.underlying64
  have cp := pairs_c h hW 1
  rw [show pairsR h 1 = ((openR h).2.1, checkR h) from rfl] at cp
  have cr := ref_c h (by omega) (by omega)
  have cc := refCheck_c h hW
  have hwr := @openR_wrong h
  have hri := @openR_right h
  have hrow := (openR_row hW).2
  have c5 := spans_c h.f5 (by omega)
  have c6 := spans_c h.f6 (by omega)
  obtain ⟨w0, w1, w2, w3, w4, w5, w6, w7, w8, w9, w10⟩ := hW
  have g5 := refSide_c h.f5 h.f7 w5 w7 w9
  have g6 := refSide_c h.f6 h.f8 w6 w8 w10
  have cl := like_c (openR h).2.1 hrow.len
  have hs : checkR h = 0 → (openR h).2.1 = (sideRes h.f6 h.f8).1 := fun e => by rw [hri e]
  replace hwr : checkR h ≠ 0 → (openR h).2.1 = [] := fun e => (hwr e).2
  unfold sideRef at g5 g6
  clear hri hrow w0 w1 w2 w3 w4 w5 w6 w7 w8 w9 w10
  generalize (openR h).2.1 = p at *
  generalize checkR h = r at *
  have CS := Aside0.mk cs
  have CR := Aside0.mk cr
  have CC := Aside0.mk cc
  have C5 := Aside0.mk c5
  have C6 := Aside0.mk c6
  clear cs cr cc c5 c6 n5 n6
  by_cases c : r = 0
  rotate_left
  · have hp := hwr c
    subst hp
    have d : (r != 0) = true := bne_iff_ne.2 c
    clear hs hwr cl g5 g6 c
    have CP : Aside0 (∀ (w : World) (v : Value), HI w v h → Calls Try.prog 76 #[v, .int .i64 1] w fun e w' => ∃ v0, e = .returned (.tuple #[v0, .int .i64 r]) ∧ SI kPr w' v0 [] ∧ Below w.heap.size w w') := ⟨cp⟩
    clear cp
    obtain ⟨A5, c5, A6, c6, A7, c7, A8, c8, e, h5, h6, h7, h8⟩ := hu.open_
    subst e
    have B := Aside0.mk (below_alloc (Below.refl w.heap.size w) (.cells #[.int .i64 h.f0, .int .u64 h.f1, .int .u64 h.f2, .int .u64 h.f3, .int .u64 h.f4, .slice A5 h.f5.length c5, .slice A6 h.f6.length c6, .slice A7 h.f7.length c7, .slice A8 h.f8.length c8] 64))
    have X := Aside0.mk (Blk.new w #[.int .i64 h.f0, .int .u64 h.f1, .int .u64 h.f2, .int .u64 h.f3, .int .u64 h.f4, .slice A5 h.f5.length c5, .slice A6 h.f6.length c6, .slice A7 h.f7.length c7, .slice A8 h.f8.length c8] 64)
    have hx := fun i => X.out.cell i
    have HV := Aside0.mk (hu.below B.out)
    have H5 := Aside0.mk (h5.below B.out)
    have H6 := Aside0.mk (h6.below B.out)
    have H7 := Aside0.mk (h7.below B.out)
    have H8 := Aside0.mk (h8.below B.out)
    clear hu h5 h6 h7 h8
    go_enter Try.func14, Try.ntmps14
    go_wp2_with (first | (go_at_call 69; (with_reducible refine (CS.out _ _ HV.out).mono ?_); rintro e W1 ⟨rfl, hb⟩; replace B := Aside0.mk (below_then B.out B.out.size hb); replace HV := Aside0.mk (HV.out.below hb); replace H5 := Aside0.mk (H5.out.below hb); replace H6 := Aside0.mk (H6.out.below hb); replace H7 := Aside0.mk (H7.out.below hb); replace H8 := Aside0.mk (H8.out.below hb); replace X := Aside0.mk (X.out.below hb); replace hx := fun i => X.out.cell i; clear  hb) | (go_at_call 76; (with_reducible refine (CP.out _ _ HV.out).mono ?_); rintro e W2 ⟨v0, rfl, hl, hb⟩; replace B := Aside0.mk (below_then B.out B.out.size hb); replace HV := Aside0.mk (HV.out.below hb); replace H5 := Aside0.mk (H5.out.below hb); replace H6 := Aside0.mk (H6.out.below hb); replace H7 := Aside0.mk (H7.out.below hb); replace H8 := Aside0.mk (H8.out.below hb); replace X := Aside0.mk (X.out.below hb); replace hx := fun i => X.out.cell i; have L := Aside0.mk hl; have hl' := L.out; obtain ⟨LA, Lc, eL⟩ := hl'.nil_; subst eL; clear hl hb) | (go_at_call 71; (with_reducible refine (CR.out _ _ HV.out).mono ?_); rintro e W3 ⟨rv, rfl, hr, hb⟩; replace B := Aside0.mk (below_then B.out B.out.size hb); replace HV := Aside0.mk (HV.out.below hb); replace H5 := Aside0.mk (H5.out.below hb); replace H6 := Aside0.mk (H6.out.below hb); replace H7 := Aside0.mk (H7.out.below hb); replace H8 := Aside0.mk (H8.out.below hb); replace L := Aside0.mk (L.out.below hb); replace X := Aside0.mk (X.out.below hb); replace hx := fun i => X.out.cell i; have RV := Aside0.mk hr; clear hr hb) | (go_at_call 57; (with_reducible refine (CC.out _ _ RV.out).mono ?_); rintro e W4 ⟨rfl, hb⟩; replace B := Aside0.mk (below_then B.out B.out.size hb); replace HV := Aside0.mk (HV.out.below hb); replace H5 := Aside0.mk (H5.out.below hb); replace H6 := Aside0.mk (H6.out.below hb); replace H7 := Aside0.mk (H7.out.below hb); replace H8 := Aside0.mk (H8.out.below hb); replace L := Aside0.mk (L.out.below hb); replace RV := Aside0.mk (RV.out.below hb); replace X := Aside0.mk (X.out.below hb); replace hx := fun i => X.out.cell i; clear  hb) | (go_at_call 70; (with_reducible refine (awake09_c _).mono ?_); rintro e W5 ⟨rfl, hb⟩; replace B := Aside0.mk (below_then B.out B.out.size hb); replace HV := Aside0.mk (HV.out.below hb); replace H5 := Aside0.mk (H5.out.below hb); replace H6 := Aside0.mk (H6.out.below hb); replace H7 := Aside0.mk (H7.out.below hb); replace H8 := Aside0.mk (H8.out.below hb); replace L := Aside0.mk (L.out.below hb); replace RV := Aside0.mk (RV.out.below hb); replace X := Aside0.mk (X.out.below hb); replace hx := fun i => X.out.cell i; clear  hb))
    go_ret
    exact ⟨rfl, B.out⟩
  · subst c
    have hp := hs rfl
    subst hp
    have CP := Aside0.mk cp
    have CL := Aside0.mk cl
    have G5 := Aside0.mk g5
    have G6 := Aside0.mk g6
    clear cp cl g5 g6 hs hwr
    obtain ⟨A5, c5, A6, c6, A7, c7, A8, c8, e, h5, h6, h7, h8⟩ := hu.open_
    subst e
    have B := Aside0.mk (below_alloc (Below.refl w.heap.size w) (.cells #[.int .i64 h.f0, .int .u64 h.f1, .int .u64 h.f2, .int .u64 h.f3, .int .u64 h.f4, .slice A5 h.f5.length c5, .slice A6 h.f6.length c6, .slice A7 h.f7.length c7, .slice A8 h.f8.length c8] 64))
    have X := Aside0.mk (Blk.new w #[.int .i64 h.f0, .int .u64 h.f1, .int .u64 h.f2, .int .u64 h.f3, .int .u64 h.f4, .slice A5 h.f5.length c5, .slice A6 h.f6.length c6, .slice A7 h.f7.length c7, .slice A8 h.f8.length c8] 64)
    have hx := fun i => X.out.cell i
    have HV := Aside0.mk (hu.below B.out)
    have H5 := Aside0.mk (h5.below B.out)
    have H6 := Aside0.mk (h6.below B.out)
    have H7 := Aside0.mk (h7.below B.out)
    have H8 := Aside0.mk (h8.below B.out)
    clear hu h5 h6 h7 h8
    go_enter Try.func14, Try.ntmps14
    go_wp2_with (first | (go_at_call 69; (with_reducible refine (CS.out _ _ HV.out).mono ?_); rintro e W1 ⟨rfl, hb⟩; replace B := Aside0.mk (below_then B.out B.out.size hb); replace HV := Aside0.mk (HV.out.below hb); replace H5 := Aside0.mk (H5.out.below hb); replace H6 := Aside0.mk (H6.out.below hb); replace H7 := Aside0.mk (H7.out.below hb); replace H8 := Aside0.mk (H8.out.below hb); replace X := Aside0.mk (X.out.below hb); replace hx := fun i => X.out.cell i; clear  hb) | (go_at_call 76; (with_reducible refine (CP.out _ _ HV.out).mono ?_); rintro e W2 ⟨v0, rfl, hl, hb⟩; replace B := Aside0.mk (below_then B.out B.out.size hb); replace HV := Aside0.mk (HV.out.below hb); replace H5 := Aside0.mk (H5.out.below hb); replace H6 := Aside0.mk (H6.out.below hb); replace H7 := Aside0.mk (H7.out.below hb); replace H8 := Aside0.mk (H8.out.below hb); replace X := Aside0.mk (X.out.below hb); replace hx := fun i => X.out.cell i; have L := Aside0.mk hl; have hl' := L.out; obtain ⟨LA, Lc, eL, -⟩ := hl'; subst eL; clear hl hb) | (go_at_call 71; (with_reducible refine (CR.out _ _ HV.out).mono ?_); rintro e W3 ⟨rv, rfl, hr, hb⟩; replace B := Aside0.mk (below_then B.out B.out.size hb); replace HV := Aside0.mk (HV.out.below hb); replace H5 := Aside0.mk (H5.out.below hb); replace H6 := Aside0.mk (H6.out.below hb); replace H7 := Aside0.mk (H7.out.below hb); replace H8 := Aside0.mk (H8.out.below hb); replace L := Aside0.mk (L.out.below hb); replace X := Aside0.mk (X.out.below hb); replace hx := fun i => X.out.cell i; have RV := Aside0.mk hr; clear hr hb) | (go_at_call 57; (with_reducible refine (CC.out _ _ RV.out).mono ?_); rintro e W4 ⟨rfl, hb⟩; replace B := Aside0.mk (below_then B.out B.out.size hb); replace HV := Aside0.mk (HV.out.below hb); replace H5 := Aside0.mk (H5.out.below hb); replace H6 := Aside0.mk (H6.out.below hb); replace H7 := Aside0.mk (H7.out.below hb); replace H8 := Aside0.mk (H8.out.below hb); replace L := Aside0.mk (L.out.below hb); replace RV := Aside0.mk (RV.out.below hb); replace X := Aside0.mk (X.out.below hb); replace hx := fun i => X.out.cell i; clear  hb))
    replace HV := Aside0.mk (HV.out.below (below_drew (Below.refl _ _)))
    replace H5 := Aside0.mk (H5.out.below (below_drew (Below.refl _ _)))
    replace H6 := Aside0.mk (H6.out.below (below_drew (Below.refl _ _)))
    replace H7 := Aside0.mk (H7.out.below (below_drew (Below.refl _ _)))
    replace H8 := Aside0.mk (H8.out.below (below_drew (Below.refl _ _)))
    replace L := Aside0.mk (L.out.below (below_drew (Below.refl _ _)))
    replace RV := Aside0.mk (RV.out.below (below_drew (Below.refl _ _)))
    replace X := Aside0.mk (X.out.below (below_drew (Below.refl _ _)))
    replace B := Aside0.mk (below_drew B.out)
    go_region_held3 (fun W => ∀ i, W.cell? ⟨w.heap.size, i, none⟩ = (#[.int .i64 h.f0, .int .u64 h.f1, .int .u64 h.f2, .int .u64 h.f3, .int .u64 h.f4, .slice A5 h.f5.length c5, .slice A6 h.f6.length c6, .slice A7 h.f7.length c7, .slice A8 h.f8.length c8] : Array Value)[i]?) (exact fun i => X.out.cell i) (first | (go_at_call 78; (with_reducible refine (C5.out _ _ H5.out).mono ?_); rintro e W6 ⟨n5, rfl, hs, hb⟩; replace B := Aside0.mk (below_then B.out B.out.size hb); replace HV := Aside0.mk (HV.out.below hb); replace H5 := Aside0.mk (H5.out.below hb); replace H6 := Aside0.mk (H6.out.below hb); replace H7 := Aside0.mk (H7.out.below hb); replace H8 := Aside0.mk (H8.out.below hb); replace L := Aside0.mk (L.out.below hb); replace RV := Aside0.mk (RV.out.below hb); replace X := Aside0.mk (X.out.below hb); replace hx := fun i => X.out.cell i; have N5 := Aside0.mk hs; clear hs hb) | (go_at_call 77; (with_reducible refine (G5.out _ _ _ N5.out H7.out).mono ?_); rintro e W7 ⟨p1, q1, rfl, hp, hq, hb⟩; replace B := Aside0.mk (below_then B.out B.out.size hb); replace HV := Aside0.mk (HV.out.below hb); replace H5 := Aside0.mk (H5.out.below hb); replace H6 := Aside0.mk (H6.out.below hb); replace H7 := Aside0.mk (H7.out.below hb); replace H8 := Aside0.mk (H8.out.below hb); replace L := Aside0.mk (L.out.below hb); replace RV := Aside0.mk (RV.out.below hb); replace N5 := Aside0.mk (N5.out.below hb); replace X := Aside0.mk (X.out.below hb); replace hx := fun i => X.out.cell i; have P1 := Aside0.mk hp; have Q1 := Aside0.mk hq; clear hp hq hb))
    all_goals (go_wp2_with fail)
    replace HV := Aside0.mk (HV.out.below (below_drew (Below.refl _ _)))
    replace H5 := Aside0.mk (H5.out.below (below_drew (Below.refl _ _)))
    replace H6 := Aside0.mk (H6.out.below (below_drew (Below.refl _ _)))
    replace H7 := Aside0.mk (H7.out.below (below_drew (Below.refl _ _)))
    replace H8 := Aside0.mk (H8.out.below (below_drew (Below.refl _ _)))
    replace L := Aside0.mk (L.out.below (below_drew (Below.refl _ _)))
    replace RV := Aside0.mk (RV.out.below (below_drew (Below.refl _ _)))
    replace N5 := Aside0.mk (N5.out.below (below_drew (Below.refl _ _)))
    replace P1 := Aside0.mk (P1.out.below (below_drew (Below.refl _ _)))
    replace Q1 := Aside0.mk (Q1.out.below (below_drew (Below.refl _ _)))
    replace X := Aside0.mk (X.out.below (below_drew (Below.refl _ _)))
    replace B := Aside0.mk (below_drew B.out)
    go_region_held3 (fun W => ∀ i, W.cell? ⟨w.heap.size, i, none⟩ = (#[.int .i64 h.f0, .int .u64 h.f1, .int .u64 h.f2, .int .u64 h.f3, .int .u64 h.f4, .slice A5 h.f5.length c5, .slice A6 h.f6.length c6, .slice A7 h.f7.length c7, .slice A8 h.f8.length c8] : Array Value)[i]?) (exact fun i => X.out.cell i) (first | (go_at_call 78; (with_reducible refine (C6.out _ _ H6.out).mono ?_); rintro e W8 ⟨n6, rfl, hs, hb⟩; replace B := Aside0.mk (below_then B.out B.out.size hb); replace HV := Aside0.mk (HV.out.below hb); replace H5 := Aside0.mk (H5.out.below hb); replace H6 := Aside0.mk (H6.out.below hb); replace H7 := Aside0.mk (H7.out.below hb); replace H8 := Aside0.mk (H8.out.below hb); replace L := Aside0.mk (L.out.below hb); replace RV := Aside0.mk (RV.out.below hb); replace N5 := Aside0.mk (N5.out.below hb); replace P1 := Aside0.mk (P1.out.below hb); replace Q1 := Aside0.mk (Q1.out.below hb); replace X := Aside0.mk (X.out.below hb); replace hx := fun i => X.out.cell i; have N6 := Aside0.mk hs; clear hs hb) | (go_at_call 77; (with_reducible refine (G6.out _ _ _ N6.out H8.out).mono ?_); rintro e W9 ⟨p2, q2, rfl, hp, hq, hb⟩; replace B := Aside0.mk (below_then B.out B.out.size hb); replace HV := Aside0.mk (HV.out.below hb); replace H5 := Aside0.mk (H5.out.below hb); replace H6 := Aside0.mk (H6.out.below hb); replace H7 := Aside0.mk (H7.out.below hb); replace H8 := Aside0.mk (H8.out.below hb); replace L := Aside0.mk (L.out.below hb); replace RV := Aside0.mk (RV.out.below hb); replace N5 := Aside0.mk (N5.out.below hb); replace P1 := Aside0.mk (P1.out.below hb); replace Q1 := Aside0.mk (Q1.out.below hb); replace N6 := Aside0.mk (N6.out.below hb); replace X := Aside0.mk (X.out.below hb); replace hx := fun i => X.out.cell i; have P2 := Aside0.mk hp; have Q2 := Aside0.mk hq; clear hp hq hb))
    all_goals go_wp2_with (first | (go_at_call 79; (with_reducible refine (CL.out _ _ _ _ L.out P2.out Q2.out).mono ?_); rintro e W10 ⟨rfl, hb⟩; replace B := Aside0.mk (below_then B.out B.out.size hb); replace HV := Aside0.mk (HV.out.below hb); replace H5 := Aside0.mk (H5.out.below hb); replace H6 := Aside0.mk (H6.out.below hb); replace H7 := Aside0.mk (H7.out.below hb); replace H8 := Aside0.mk (H8.out.below hb); replace L := Aside0.mk (L.out.below hb); replace RV := Aside0.mk (RV.out.below hb); replace N5 := Aside0.mk (N5.out.below hb); replace P1 := Aside0.mk (P1.out.below hb); replace Q1 := Aside0.mk (Q1.out.below hb); replace N6 := Aside0.mk (N6.out.below hb); replace P2 := Aside0.mk (P2.out.below hb); replace Q2 := Aside0.mk (Q2.out.below hb); replace X := Aside0.mk (X.out.below hb); replace hx := fun i => X.out.cell i; clear  hb) | (go_at_call 70; (with_reducible refine (awake09_c _).mono ?_); rintro e W11 ⟨rfl, hb⟩; replace B := Aside0.mk (below_then B.out B.out.size hb); replace HV := Aside0.mk (HV.out.below hb); replace H5 := Aside0.mk (H5.out.below hb); replace H6 := Aside0.mk (H6.out.below hb); replace H7 := Aside0.mk (H7.out.below hb); replace H8 := Aside0.mk (H8.out.below hb); replace L := Aside0.mk (L.out.below hb); replace RV := Aside0.mk (RV.out.below hb); replace N5 := Aside0.mk (N5.out.below hb); replace P1 := Aside0.mk (P1.out.below hb); replace Q1 := Aside0.mk (Q1.out.below hb); replace N6 := Aside0.mk (N6.out.below hb); replace P2 := Aside0.mk (P2.out.below hb); replace Q2 := Aside0.mk (Q2.out.below hb); replace X := Aside0.mk (X.out.below hb); replace hx := fun i => X.out.cell i; clear  hb))
    all_goals go_ret
    all_goals exact ⟨rfl, B.out⟩
set_option maxHeartbeats 16000000 in
set_option maxRecDepth 100000 in
theorem histPairs_c (h : Hi) (side : Int) (hw : wfI h) (hs : i64 side) (w : World) (u x1 : Value) (hx1 : x1 = .int .i64 side) (hu : HI w u h) : Calls Try.prog 14 #[u, x1] w fun e w' => e = .returned (.bool true) ∧ Below w.heap.size w w' := by
  subst hx1
  have hud := Try.underlying64
  obtain ⟨b, hb, cs⟩ := small_c h hw.2.2.2.2.2.1 hw.2.2.2.2.2.2.1
  cases b with
  | false =>
    have CS := Aside0.mk cs
    clear cs hb
    obtain ⟨A5, c5, A6, c6, A7, c7, A8, c8, e, h5, h6, h7, h8⟩ := hu.open_
    subst e
    have B := Aside0.mk (below_alloc (Below.refl w.heap.size w) (.cells #[.int .i64 h.f0, .int .u64 h.f1, .int .u64 h.f2, .int .u64 h.f3, .int .u64 h.f4, .slice A5 h.f5.length c5, .slice A6 h.f6.length c6, .slice A7 h.f7.length c7, .slice A8 h.f8.length c8] 64))
    have X := Aside0.mk (Blk.new w #[.int .i64 h.f0, .int .u64 h.f1, .int .u64 h.f2, .int .u64 h.f3, .int .u64 h.f4, .slice A5 h.f5.length c5, .slice A6 h.f6.length c6, .slice A7 h.f7.length c7, .slice A8 h.f8.length c8] 64)
    have hx := fun i => X.out.cell i
    have HV := Aside0.mk (hu.below B.out)
    have H5 := Aside0.mk (h5.below B.out)
    have H6 := Aside0.mk (h6.below B.out)
    have H7 := Aside0.mk (h7.below B.out)
    have H8 := Aside0.mk (h8.below B.out)
    clear hu h5 h6 h7 h8
    go_enter Try.func14, Try.ntmps14
    go_wp2_with (first | (go_at_call 69; (with_reducible refine (CS.out _ _ HV.out).mono ?_); rintro e W1 ⟨rfl, hb⟩; replace B := Aside0.mk (below_then B.out B.out.size hb); replace HV := Aside0.mk (HV.out.below hb); replace X := Aside0.mk (X.out.below hb); replace hx := fun i => X.out.cell i; clear  hb) | (go_at_call 70; (with_reducible refine (awake09_c _).mono ?_); rintro e W2 ⟨rfl, hb⟩; replace B := Aside0.mk (below_then B.out B.out.size hb); replace HV := Aside0.mk (HV.out.below hb); replace X := Aside0.mk (X.out.below hb); replace hx := fun i => X.out.cell i; clear  hb))
    go_ret
    exact ⟨rfl, B.out⟩
  | true =>
    obtain ⟨n5, n6, n7, n8⟩ := hb rfl
    have hW := wfH_of hw n7 n8
    by_cases s0 : side = 0
    · subst s0; exact histPairs_0 h hW n5 n6 cs w u hu
    by_cases s1 : side = 1
    · subst s1; exact histPairs_1 h hW n5 n6 cs w u hu
    have cp := pairs_c h hW side
    rw [show pairsR h side = ([], 11) by unfold pairsR; rw [if_neg s0, if_neg s1]] at cp
    have CP := Aside0.mk cp
    have CS := Aside0.mk cs
    have d0 : (side != 0) = true := bne_iff_ne.2 s0
    have d1 : (side != 1) = true := bne_iff_ne.2 s1
    clear cp cs s0 s1 hb hW n5 n6 n7 n8 hw hs
    obtain ⟨A5, c5, A6, c6, A7, c7, A8, c8, e, h5, h6, h7, h8⟩ := hu.open_
    subst e
    have B := Aside0.mk (below_alloc (Below.refl w.heap.size w) (.cells #[.int .i64 h.f0, .int .u64 h.f1, .int .u64 h.f2, .int .u64 h.f3, .int .u64 h.f4, .slice A5 h.f5.length c5, .slice A6 h.f6.length c6, .slice A7 h.f7.length c7, .slice A8 h.f8.length c8] 64))
    have X := Aside0.mk (Blk.new w #[.int .i64 h.f0, .int .u64 h.f1, .int .u64 h.f2, .int .u64 h.f3, .int .u64 h.f4, .slice A5 h.f5.length c5, .slice A6 h.f6.length c6, .slice A7 h.f7.length c7, .slice A8 h.f8.length c8] 64)
    have hx := fun i => X.out.cell i
    have HV := Aside0.mk (hu.below B.out)
    have H5 := Aside0.mk (h5.below B.out)
    have H6 := Aside0.mk (h6.below B.out)
    have H7 := Aside0.mk (h7.below B.out)
    have H8 := Aside0.mk (h8.below B.out)
    clear hu h5 h6 h7 h8
    go_enter Try.func14, Try.ntmps14
    go_wp2_with (first | (go_at_call 69; (with_reducible refine (CS.out _ _ HV.out).mono ?_); rintro e W1 ⟨rfl, hb⟩; replace B := Aside0.mk (below_then B.out B.out.size hb); replace HV := Aside0.mk (HV.out.below hb); replace X := Aside0.mk (X.out.below hb); replace hx := fun i => X.out.cell i; clear  hb) | (go_at_call 76; (with_reducible refine (CP.out _ _ HV.out).mono ?_); rintro e W3 ⟨v0, rfl, hl, hb⟩; replace B := Aside0.mk (below_then B.out B.out.size hb); replace HV := Aside0.mk (HV.out.below hb); replace X := Aside0.mk (X.out.below hb); replace hx := fun i => X.out.cell i; have L := Aside0.mk hl; have hl' := L.out; obtain ⟨LA, Lc, eL⟩ := hl'.nil_; subst eL; clear hl hb) | (go_at_call 70; (with_reducible refine (awake09_c _).mono ?_); rintro e W4 ⟨rfl, hb⟩; replace B := Aside0.mk (below_then B.out B.out.size hb); replace HV := Aside0.mk (HV.out.below hb); replace L := Aside0.mk (L.out.below hb); replace X := Aside0.mk (X.out.below hb); replace hx := fun i => X.out.cell i; clear  hb))
    go_ret
    exact ⟨rfl, B.out⟩
def tidepolelaw09_HistPairs.f (s0 z0 zc0 ct0 sm0 : Int) (l0_5 l0_6 : List Sp) (l0_7 l0_8 : List Int) (a1 : Int) : Option Bool := if wfI ⟨s0, z0, zc0, ct0, sm0, l0_5, l0_6, l0_7, l0_8⟩ ∧ i64 a1 then some true else none
theorem tidepolelaw09_HistPairs.calls (s0 : Int) (z0 : Int) (zc0 : Int) (ct0 : Int) (sm0 : Int) (A0_5 : Option Addr) (c0_5 : Nat) (l0_5 : List Sp) (A0_6 : Option Addr) (c0_6 : Nat) (l0_6 : List Sp) (A0_7 : Option Addr) (c0_7 : Nat) (l0_7 : List Int) (A0_8 : Option Addr) (c0_8 : Nat) (l0_8 : List Int) (a1 : Int) (r : Bool) (w : World) (hr0_5 : Kd.C kSp w A0_5 l0_5.length l0_5) (hc0_5 : l0_5.length ≤ c0_5) (hr0_6 : Kd.C kSp w A0_6 l0_6.length l0_6) (hc0_6 : l0_6.length ≤ c0_6) (hr0_7 : Kd.C (Kd.int .i64) w A0_7 l0_7.length l0_7) (hc0_7 : l0_7.length ≤ c0_7) (hr0_8 : Kd.C (Kd.int .i64) w A0_8 l0_8.length l0_8) (hc0_8 : l0_8.length ≤ c0_8) (h : tidepolelaw09_HistPairs.f s0 z0 zc0 ct0 sm0 l0_5 l0_6 l0_7 l0_8 a1 = some r) :
    Calls Try.prog 14 #[.agg #[.int .i64 s0, .int .u64 z0, .int .u64 zc0, .int .u64 ct0, .int .u64 sm0, .slice A0_5 l0_5.length c0_5, .slice A0_6 l0_6.length c0_6, .slice A0_7 l0_7.length c0_7, .slice A0_8 l0_8.length c0_8], .int .i64 a1] w fun e w' => e = .returned (.bool r) ∧ Below w.heap.size w w' := by
  obtain ⟨⟨q0, q1⟩, rfl⟩ := of_ite_some h
  exact histPairs_c _ _ q0 q1 w _ _ rfl (HI.mk (h := ⟨s0, z0, zc0, ct0, sm0, l0_5, l0_6, l0_7, l0_8⟩) (.of hr0_5 hc0_5) (.of hr0_6 hc0_6) (.of hr0_7 hc0_7) (.of hr0_8 hc0_8))
end Go.Proofs.Ytacgeafjilipdaa.P
namespace Go.Proofs.Ytacgeafjilipdaa.P
def headSigns : List Char := List.map Char.ofNat [104, 97, 114, 110, 101, 115, 115, 32, 97, 50, 97, 99, 52, 56, 53, 53, 54, 101, 54, 52, 97, 51, 49, 101, 54, 54, 98, 55, 102, 55, 97, 51, 54, 49, 102, 100, 52, 100, 51, 54, 55, 57, 100, 102, 98, 49, 97, 57, 53, 50, 101, 57, 54, 51, 55, 99, 57, 57, 56, 52, 48, 101, 100, 50, 99, 98, 97, 100, 54, 54, 50, 100, 32, 99, 117, 116, 32, 97, 116, 32, 116, 105, 100, 101, 112, 111, 108, 101, 47, 116, 105, 100, 101, 112, 111, 108, 101, 108, 97, 119, 48, 55, 46, 80, 97, 105, 114, 115, 85, 110, 122, 105, 112, 32, 116, 105, 100, 101, 112, 111, 108, 101, 47, 116, 105, 100, 101, 112, 111, 108, 101, 108, 97, 119, 48, 55, 46, 80, 97, 105, 114, 115, 70, 105, 110, 100, 115, 32, 116, 105, 100, 101, 112, 111, 108, 101, 47, 116, 105, 100, 101, 112, 111, 108, 101, 108, 97, 119, 48, 55, 46, 80, 97, 105, 114, 115, 77, 101, 114, 103, 101, 32, 116, 105, 100, 101, 112, 111, 108, 101, 47, 116, 105, 100, 101, 112, 111, 108, 101, 108, 97, 119, 48, 55, 46, 80, 97, 105, 114, 115, 90, 105, 112, 32, 116, 105, 100, 101, 112, 111, 108, 101, 47, 116, 105, 100, 101, 112, 111, 108, 101, 108, 97, 119, 48, 55, 46, 80, 97, 105, 114, 115, 68, 101, 108, 116, 97, 115, 32, 116, 105, 100, 101, 112, 111, 108, 101, 47, 116, 105, 100, 101, 112, 111, 108, 101, 108, 97, 119, 49, 49, 46, 82, 101, 115, 101, 116, 73, 110, 116, 115, 32, 116, 105, 100, 101, 112, 111, 108, 101, 47, 116, 105, 100, 101, 112, 111, 108, 101, 108, 97, 119, 49, 49, 46, 82, 101, 115, 101, 116, 70, 108, 111, 97, 116, 115, 32, 116, 105, 100, 101, 112, 111, 108, 101, 47, 116, 105, 100, 101, 112, 111, 108, 101, 108, 97, 119, 49, 49, 46, 82, 101, 115, 101, 116, 78, 97, 109, 101, 115, 32, 116, 105, 100, 101, 112, 111, 108, 101, 47, 116, 105, 100, 101, 112, 111, 108, 101, 108, 97, 119, 49, 49, 46, 82, 101, 115, 101, 116, 71, 111, 101, 115, 32, 116, 105, 100, 101, 112, 111, 108, 101, 47, 116, 105, 100, 101, 112, 111, 108, 101, 108, 97, 119, 49, 49, 46, 82, 101, 115, 101, 116, 66, 111, 116, 104, 32, 116, 105, 100, 101, 112, 111, 108, 101, 47, 116, 105, 100, 101, 112, 111, 108, 101, 108, 97, 119, 48, 57, 46, 72, 105, 115, 116, 67, 104, 101, 99, 107, 115, 32, 116, 105, 100, 101, 112, 111, 108, 101, 47, 116, 105, 100, 101, 112, 111, 108, 101, 108, 97, 119, 48, 57, 46, 72, 105, 115, 116, 80, 97, 105, 114, 115, 32, 116, 105, 100, 101, 112, 111, 108, 101, 47, 116, 105, 100, 101, 112, 111, 108, 101, 108, 97, 119, 48, 57, 46, 72, 105, 115, 116, 69, 113, 117, 97, 108, 32, 116, 105, 100, 101, 112, 111, 108, 101, 47, 116, 105, 100, 101, 112, 111, 108, 101, 108, 97, 119, 48, 57, 46, 72, 105, 115, 116, 79, 118, 101, 114, 32, 116, 105, 100, 101, 112, 111, 108, 101, 47, 116, 105, 100, 101, 112, 111, 108, 101, 108, 97, 119, 48, 57, 46, 72, 105, 115, 116, 77, 97, 107, 101, 115, 32, 116, 105, 100, 101, 112, 111, 108, 101, 47, 116, 105, 100, 101, 112, 111, 108, 101, 108, 97, 119, 48, 57, 46, 72, 105, 115, 116, 67, 97, 110, 111, 110, 32, 116, 105, 100, 101, 112, 111, 108, 101, 47, 116, 105, 100, 101, 112, 111, 108, 101, 108, 97, 119, 48, 57, 46, 72, 105, 115, 116, 87, 97, 108, 107, 115, 32, 116, 105, 100, 101, 112, 111, 108, 101, 47, 116, 105, 100, 101, 112, 111, 108, 101, 108, 97, 119, 49, 49, 46, 82, 101, 115, 101, 116, 76, 97, 121, 115, 32, 116, 105, 100, 101, 112, 111, 108, 101, 47, 116, 105, 100, 101, 112, 111, 108, 101, 108, 97, 119, 49, 48, 46, 70, 104, 105, 115, 116, 67, 104, 101, 99, 107, 115, 32, 116, 105, 100, 101, 112, 111, 108, 101, 47, 116, 105, 100, 101, 112, 111, 108, 101, 108, 97, 119, 49, 48, 46, 70, 104, 105, 115, 116, 80, 97, 105, 114, 115, 32, 116, 105, 100, 101, 112, 111, 108, 101, 47, 116, 105, 100, 101, 112, 111, 108, 101, 108, 97, 119, 49, 48, 46, 70, 104, 105, 115, 116, 69, 113, 117, 97, 108, 32, 116, 105, 100, 101, 112, 111, 108, 101, 47, 116, 105, 100, 101, 112, 111, 108, 101, 108, 97, 119, 49, 48, 46, 70, 104, 105, 115, 116, 79, 118, 101, 114, 32, 116, 105, 100, 101, 112, 111, 108, 101, 47, 116, 105, 100, 101, 112, 111, 108, 101, 108, 97, 119, 49, 48, 46, 70, 104, 105, 115, 116, 70, 108, 111, 97, 116, 115, 32, 116, 105, 100, 101, 112, 111, 108, 101, 47, 116, 105, 100, 101, 112, 111, 108, 101, 108, 97, 119, 49, 48, 46, 70, 104, 105, 115, 116, 77, 97, 107, 101, 115, 32, 116, 105, 100, 101, 112, 111, 108, 101, 47, 116, 105, 100, 101, 112, 111, 108, 101, 108, 97, 119, 49, 48, 46, 70, 104, 105, 115, 116, 67, 97, 110, 111, 110, 32, 116, 105, 100, 101, 112, 111, 108, 101, 47, 116, 105, 100, 101, 112, 111, 108, 101, 108, 97, 119, 49, 48, 46, 70, 104, 105, 115, 116, 66, 97, 99, 107, 32, 116, 105, 100, 101, 112, 111, 108, 101, 47, 116, 105, 100, 101, 112, 111, 108, 101, 108, 97, 119, 49, 48, 46, 70, 104, 105, 115, 116, 70, 114, 111, 109]
theorem head_is : Try.prog.initOrder = String.ofList headSigns := by kernel_rfl
theorem head_signs : Try.prog.initOrder.toList = headSigns := by rw [head_is]; exact String.toList_ofList
theorem head_first : (behindMainWord (wordsSigns headSigns)).head? = some "cut".toList := by kernel_rfl
theorem head_words : ∃ r, behindMainWord (wordsSigns headSigns) = "cut".toList :: r := by have h := head_first; cases h2 : behindMainWord (wordsSigns headSigns) with | nil => rw [h2] at h; cases h | cons c r => rw [h2] at h; injection h with h; exact ⟨r, by rw [h]⟩
theorem strip_cut (r : List (List Char)) : stripLifts liftWords ("cut".toList :: r) = ([], "cut".toList :: r) := by kernel_rfl
theorem head_lifts : Try.prog.headLifts = [] := by obtain ⟨r, hr⟩ := head_words; unfold Program.headLifts; rw [head_signs, hr, strip_cut]; kernel_rfl
theorem head_doorFits : Try.prog.doorFits [] = true := by kernel_rfl
theorem head_laysLater : Try.prog.laysLater = false := by kernel_rfl
theorem head_bearsReflect : Try.prog.bearsReflect = false := by kernel_rfl
theorem mayEnter_of {P : Program} {L : List Char} {r : List (List Char)} (h1 : P.initOrder.toList = L) (h2 : behindMainWord (wordsSigns L) = "cut".toList :: r) (h3 : P.doorFits [] = true) (h4 : P.laysLater = false) (h5 : P.bearsReflect = false) : P.mayEnter = true := by unfold Program.mayEnter; rw [h1, h2]; simp only [strip_cut, h3, h4, h5]; kernel_rfl
theorem head_mayEnter : Try.prog.mayEnter = true := by obtain ⟨r, hr⟩ := head_words; exact mayEnter_of head_signs hr head_doorFits head_laysLater head_bearsReflect
theorem head_liftsFinal : Try.prog.liftsFinal = false := by obtain ⟨r, hr⟩ := head_words; unfold Program.liftsFinal; rw [head_signs, head_lifts, hr]; kernel_rfl
theorem make_of {P : Program} {L : List Char} {r : List (List Char)} (h1 : P.initOrder.toList = L) (h2 : behindMainWord (wordsSigns L) = "cut".toList :: r) : P.make = some .cut := by unfold Program.make; rw [h1, h2]; kernel_rfl
theorem head_make : Try.prog.make = some .cut := by obtain ⟨r, hr⟩ := head_words; exact make_of head_signs hr
theorem head_laidOut : laidOutB Try.prog = true := by kernel_rfl
theorem head_mapsRowed : mapsRowed Try.prog = true := by kernel_rfl
theorem head_stops : (Try.prog.stops == []) = true := by kernel_rfl
theorem head_stopKnobs : (Try.prog.stopKnobs == []) = true := by kernel_rfl
theorem head_plainKeys : Try.prog.plainKeys = true := by kernel_rfl
theorem head_stopsHeard : Try.prog.stopsHeard = true := by kernel_rfl
end Go.Proofs.Ytacgeafjilipdaa.P
namespace Go.Proofs.Ytacgeafjilipdaa.Pure
open Go.RowKit Go.Proofs.Ytacgeafjilipdaa.P Go.Proofs.YtacgeafjilipdaaW.PrintWords
theorem HistPairs : ∀ (x0 : S64) (a1 : Int), wf64 x0 → (inI .i64) a1 → tidepolelaw09_HistPairs.f x0.f0 x0.f1 x0.f2 x0.f3 x0.f4 x0.f5 x0.f6 x0.f7 x0.f8 a1 = some true := fun _ _ h0 h1 => if_pos ⟨wfI_of h0, i64_of h1⟩
end Go.Proofs.Ytacgeafjilipdaa.Pure
namespace Go.Proofs.Ytacgeafjilipdaa.histPairs
open Go.ChangeShapes Go.WideShapes Go.ChangeAt Go.RowKit Go.Proofs.Ytacgeafjilipdaa.P Go.Proofs.YtacgeafjilipdaaW.PrintWords
set_option linter.unusedVariables false
theorem own : ownKnob Try.prog.godebug = none := by kernel_rfl
theorem laidOut : laidOutB Try.prog = true := by kernel_rfl
set_option maxRecDepth 100000 in
set_option maxHeartbeats 4000000 in
theorem lifted (os : Os) (started : os.Started) (H : Type) (enc : TypeId × Value → H) :
    ReturnsInHanded {} Try.checked os 14 .any (Rows.histPairsSpec.pre6 enc Try.prog Try.f14 Rows.histPairsRow.domain false) (Rows.histPairsSpec.post enc Try.prog Try.f14 false true false false) := by
  refine returnsInHanded_of_change_sized (C := Try.checked) own started (by kernel_rfl) Try.func14
    (ChangeSpec.witness6 (enc := enc) (C := Try.checked) false ⟨#[], #[.agg #[.int .i64 0, .int .u64 0, .int .u64 0, .int .u64 0, .int .u64 0, .slice none 0 0, .slice none 0 0, .slice none 0 0, .slice none 0 0], .int .i64 0], []⟩ 8 (by kernel_rfl) (by kernel_rfl) (by kernel_rfl) (by kernel_rfl)) ?_
  intro W base args ds gs before hval0 hW hcnd hsz0 _
  have hval : ∀ (j : Nat) t v, Try.f14.params[j]? = some t → args[j]? = some v → Value.okWide Try.prog W .any base t v := hval0
  have hW' := hW
  obtain ⟨p, q, hA0, hV, rfl, hfz, hnd⟩ := hW
  have hA : DataW.TrodAll enc Try.prog W 0 (fun _ => true) true Try.f14.params.toList args.toList ds p := hA0
  rw [Try.params14] at hA hval
  obtain ⟨v0, vs0, d0, ds0, p0, q0, hargs, rfl, rfl, h0, r0⟩ := trodAll_cons hA
  obtain ⟨v1, vs1, d1, ds1, p1, q1, rfl, rfl, rfl, h1, r1⟩ := trodAll_cons r0
  obtain ⟨rfl, rfl, rfl⟩ := trodAll_nil r1
  obtain rfl : args = #[v0, v1] := by cases args; simp_all
  obtain ⟨rfl, rfl⟩ := trodVars_none hV
  have k0 := h0
  have lt0 : ∀ x ∈ p0, x.block < W.heap.size := by obtain ⟨m, hm⟩ := k0; exact DataW.trod_lt m _ _ _ hm
  obtain ⟨fu0, hf0⟩ := h0
  obtain ⟨x0, hK0, w0⟩ := opens64 enc W 0 _ true fu0 _ _ hf0
  obtain ⟨cs0, rfl, _⟩ := okWide_struct Try.underlying64 (hval 0 64 v0 rfl rfl)
  obtain ⟨A0_5, c0_5, A0_6, c0_6, A0_7, c0_7, A0_8, c0_8, he0, h0_5_l, hC0_5, h0_6_l, hC0_6, h0_7_l, hC0_7, h0_8_l, hC0_8⟩ := k64_open hK0
  obtain rfl : cs0 = #[.int .i64 x0.f0, .int .u64 x0.f1, .int .u64 x0.f2, .int .u64 x0.f3, .int .u64 x0.f4, .slice A0_5 x0.f5.length c0_5, .slice A0_6 x0.f6.length c0_6, .slice A0_7 x0.f7.length c0_7, .slice A0_8 x0.f8.length c0_8] := by
    have he : cs0.toList = _ := he0
    exact Array.toList_inj.1 he
  obtain ⟨a1, rfl, rfl, rfl, w1⟩ := open_int Try.underlying3 (hval 1 3 v1 rfl rfl) h1
  clear hA0 hval0 hsz0
  obtain hk := Pure.HistPairs x0 a1 w0 w1
  refine (P.tidepolelaw09_HistPairs.calls x0.f0 x0.f1 x0.f2 x0.f3 x0.f4 A0_5 c0_5 x0.f5 A0_6 c0_6 x0.f6 A0_7 c0_7 x0.f7 A0_8 c0_8 x0.f8 a1 true W hC0_5 h0_5_l hC0_6 h0_6_l hC0_7 h0_7_l hC0_8 h0_8_l hk).mono fun e W' ⟨he, bel⟩ => ?_
  subst he
  exact ⟨_, rfl, _, _, _, [], _, [], hW', trodAll_mk1 (shut_bool Try.underlying4 _), (trodAll_cons_mk (Below.trod laidOut (by kernel_rfl) (of_decide_eq_true (by kernel_rfl)) k0 bel lt0) (trodAll_cons_mk (shut_int Try.underlying3 w1) trodAll_mk0)), rfl, bel.frame _, fun h => by cases h⟩
theorem cf0 : (Rows.histPairsRow.wf (OpenSpec.ofChange Rows.histPairsSpec)) = true := by kernel_rfl
theorem cf1 : (laidOutB Try.prog) = true := P.head_laidOut
theorem cf2 : (mapsRowed Try.prog) = true := P.head_mapsRowed
theorem cf3 : (Try.f14.params.all (Try.prog.readableRec ·)) = true := by kernel_rfl
theorem cf4 : (namedTie Try.prog Rows.histPairsRow.named Rows.histPairsSpec.vars) = true := by kernel_rfl
theorem cf5 : ((Rows.histPairsRow.stops == [])) = true := by kernel_rfl
theorem cf6 : ((Try.prog.stops == [])) = true := P.head_stops
theorem cf7 : ((Rows.histPairsRow.knobs == [])) = true := by kernel_rfl
theorem cf8 : ((Try.prog.stopKnobs == [])) = true := P.head_stopKnobs
theorem cf9 : ((Rows.histPairsRow.inPlace == Try.prog.inPlace 14)) = true := by kernel_rfl
theorem cf10 : ((Rows.histPairsRow.unfollowed == Try.prog.unfollowed 14)) = true := by kernel_rfl
theorem cf11 : ((Rows.histPairsRow.recurses == Try.prog.recurses 14)) = true := by kernel_rfl
theorem cf12 : ((Rows.histPairsRow.named == Try.prog.varsNamed 14)) = true := by kernel_rfl
theorem cf13 : ((Rows.histPairsRow.maps == (Try.f14.params.toList ++ Rows.histPairsSpec.plain.varTypes Try.prog).any (Try.prog.mapsRec ·))) = true := by kernel_rfl
theorem cf14 : ((Rows.histPairsRow.ifaces == (Try.f14.params.toList ++ Rows.histPairsSpec.plain.varTypes Try.prog).any (Try.prog.ifacesRec ·))) = true := by kernel_rfl
theorem cf15 : ((Rows.histPairsRow.mapsOut == Try.prog.mapsAmong Try.f14.resultTypes.toList)) = true := by kernel_rfl
theorem cf16 : ((Rows.histPairsRow.loops == (Try.f14.params.toList ++ Rows.histPairsSpec.plain.varTypes Try.prog).any (Try.prog.loopsFrom ·))) = true := by kernel_rfl
theorem cf17 : ((Rows.histPairsRow.wideKeys == (Try.f14.params.toList ++ Rows.histPairsSpec.plain.varTypes Try.prog ++ Try.f14.resultTypes.toList).any (Try.prog.wideKeysFrom ·))) = true := by kernel_rfl
theorem cf18 : (Rows.histPairsSpec.vars.all (Try.prog.varReadable ·)) = true := by kernel_rfl
theorem cf19 : (Try.f14.resultTypes.all (fun t => Try.prog.readableRec t && decide (t < Try.prog.types.size))) = true := by kernel_rfl
theorem cf20 : ((Rows.histPairsRow.ifacesOut == Try.f14.resultTypes.toList.any (Try.prog.ifacesRec ·))) = true := by kernel_rfl
theorem cf21 : ((Rows.histPairsRow.loopsOut == Try.f14.resultTypes.toList.any (Try.prog.loopsFrom ·))) = true := by kernel_rfl
theorem cf22 : ((Rows.histPairsRow.plainKeys == Try.prog.plainKeys)) = true := by rw [P.head_plainKeys]; kernel_rfl
theorem cf23 : (Rows.histPairsRow.shortTexts.isNone) = true := by kernel_rfl
theorem cf24 : (Try.prog.stopsHeard) = true := P.head_stopsHeard
theorem cf25 : (Try.prog.mayEnter) = true := P.head_mayEnter
theorem cf26 : ((Rows.histPairsRow.lifted == Try.prog.liftsFinal)) = true := by rw [P.head_liftsFinal]; kernel_rfl
theorem cf27 : ((Try.prog.make == some Rows.histPairsRow.make)) = true := by rw [P.head_make]; kernel_rfl
theorem cf28 : ((Rows.histPairsRow.kinds == (if Rows.histPairsRow.domain.isEmpty then [] else Try.f14.params.toList.map fun t => match Try.prog.underlying t with | some (.int k) => some k | _ => none))) = true := by kernel_rfl
theorem cf29 : ((Rows.histPairsRow.pinned == Rows.histPairsRow.pinnedBy)) = true := by kernel_rfl
theorem cf30 : ((Rows.histPairsRow.veiled == (Try.f14.params.toList ++ Rows.histPairsSpec.plain.varTypes Try.prog ++ Try.f14.resultTypes.toList).any (Try.prog.veiledRec ·))) = true := by kernel_rfl
theorem cf31 : (Rows.histPairsRow.veiledFits Try.prog Try.f14.params.toList (Try.f14.params.toList ++ Rows.histPairsSpec.plain.varTypes Try.prog ++ Try.f14.resultTypes.toList)) = true := by kernel_rfl
theorem band_mk {a b : Bool} (h : a = true) (k : b = true) : (a && b) = true := by rw [h, k]; rfl
theorem closed : joinedFacts Try.prog 14 Try.f14 Rows.histPairsSpec Rows.histPairsRow = true := by unfold joinedFacts; exact (band_mk (band_mk (band_mk (band_mk (band_mk (band_mk (band_mk (band_mk (band_mk (band_mk (band_mk (band_mk (band_mk (band_mk (band_mk (band_mk (band_mk (band_mk (band_mk (band_mk (band_mk (band_mk (band_mk (band_mk (band_mk (band_mk (band_mk (band_mk (band_mk (band_mk (band_mk cf0 cf1) cf2) cf3) cf4) cf5) cf6) cf7) cf8) cf9) cf10) cf11) cf12) cf13) cf14) cf15) cf16) cf17) cf18) cf19) cf20) cf21) cf22) cf23) cf24) cf25) cf26) cf27) (by kernel_rfl)) cf29) cf30) cf31)
theorem over : Rows.histPairsRow.holds Try.pinned (OpenSpec.ofChange Rows.histPairsSpec) :=
  OpenClaim.holds_of_wide 14 Try.f14 rfl rfl rfl rfl rfl rfl rfl ⟨rfl, rfl, rfl, rfl, rfl⟩ rfl rfl rfl rfl rfl (by kernel_rfl) Try.func14 closed
    (of_decide_eq_true (by kernel_rfl)) (by unfold Func.isWrapper; first | (rw [if_pos (by decide +kernel)]; kernel_rfl) | (rw [if_neg (by decide +kernel)]; exact ⟨rfl, rfl⟩))
    (fun os started H enc _ => lifted os started H enc)
theorem proved : Rows.HistPairsSaid := over
#print axioms proved
end Go.Proofs.Ytacgeafjilipdaa.histPairs
namespace Go.Proofs.Ytacgeafjilipdaa
theorem histPairs_holds : Rows.HistPairsSaid := histPairs.proved
end Go.Proofs.Ytacgeafjilipdaa
