/- ScaleFits: the part that this text bears of the proof that the statement answers true for every input. No condition. -/
import Derived.Test.YtooiccpmngmapaaProg
import Derived.Below
import Derived.Deep.Draws
import Derived.Deep.AppendLies
import Derived.Maps.AppendAt
import Derived.OwnWalk
import Derived.Laws.BytesArg
import Derived.Laws.MakeOwn
import Derived.Laws.OwnMore
import Derived.Deep.OwnRows
import Derived.Tactics
import Derived.Lib.ConvBytes
import Derived.Laws.Slices
import Derived.WalkKit
import Derived.KernelRfl
import Derived.RowKit3
import Derived.Deep.LoopGhost
import Derived.Deep.QuietTactic
import Derived.BigQuiet
import Derived.WideLaws
import Derived.Deep.DeepCutAuto
import Derived.Deep.CutBlock
import Derived.Deep.RegionHeld3
import Derived.Laws.Rows
import Derived.Lib.AppendStr
import Derived.ArgAppend
import Derived.Laws.IdiomCopy
import Derived.OrdersHeld
import Derived.Laws.BitsLemmas
import Derived.RowKit
import Derived.Deep.Slices
import Derived.ChangeArms
import Derived.Shelf.Abstract
import Derived.WalkSpells
import Derived.RangeFuncNested
import Derived.RangeFuncBound
import Derived.RangeFuncCalls
import Derived.RangeFuncLeaves
import Derived.RangeFuncBox
import Derived.OwnWalkIn
import Derived.TacticsInMore
import Derived.LoopNIn
import Derived.LoopIn
import Derived.Laws.Externs
import Derived.Shelf.Spec.BitsCarry
import Derived.RegionIn
import Derived.Sort.QuietTacIn
import Derived.Deep.RegionWith
import Derived.Laws.BitsAllLaws
import Derived.Outline
import Derived.Laws.Tables
import Derived.Deep.WholeRow
import Derived.Laws.CopyOwn
import Derived.Laws.ResultCell
import Derived.Laws.StructEq
import Derived.Test.YtooiccpmngmapaaQScaleFitsWWords
import Derived.Test.YtooiccpmngmapaaQScaleFitsWLast
import Derived.Test.YtooiccpmngmapaaQScaleFitsWTab
import Derived.Test.YtooiccpmngmapaaQScaleFitsWFour
import Derived.Test.YtooiccpmngmapaaQScaleFitsWQPut
import Derived.Test.YtooiccpmngmapaaQScaleFitsWApart
import Derived.Test.YtooiccpmngmapaaQScaleFitsWArr
import Derived.Test.YtooiccpmngmapaaQScaleFitsWZeros
import Derived.Test.YtooiccpmngmapaaQScaleFitsWFoot
import Derived.Test.YtooiccpmngmapaaQScaleFitsWKept
import Derived.Test.YtooiccpmngmapaaQScaleFitsWShare
import Derived.Test.YtooiccpmngmapaaQScaleFitsWN
import Derived.Test.YtooiccpmngmapaaQScaleFitsWFootNe
import Derived.Test.YtooiccpmngmapaaQScaleFitsWAt
import Derived.Test.YtooiccpmngmapaaQScaleFitsWEqStruct
import Derived.Test.YtooiccpmngmapaaQScaleFitsWRepsOne
import Derived.Test.YtooiccpmngmapaaQScaleFitsWInv
import Derived.Test.YtooiccpmngmapaaQScaleFitsWInvWords
import Derived.Test.YtooiccpmngmapaaQScaleFitsWGuard
import Derived.Test.YtooiccpmngmapaaQScaleFitsWNEv
import Derived.Test.YtooiccpmngmapaaQScaleFitsWMore
import Derived.Test.YtooiccpmngmapaaRows
import Derived.Test.YtooiccpmngmapaaQScaleFits0
import Derived.Test.YtooiccpmngmapaaQScaleFits1
import Derived.Test.YtooiccpmngmapaaQScaleFits2
import Derived.Test.YtooiccpmngmapaaQScaleFits3
set_option linter.unusedVariables false
set_option linter.unusedSimpArgs false
namespace Go.Proofs.Ytooiccpmngmapaa.P
open Go.RowKit Go.Shelf Go.Proofs.YtooiccpmngmapaaW.PrintWords Go.Proofs.YtooiccpmngmapaaW.PrintLast Go.Proofs.YtooiccpmngmapaaW.PrintMore
theorem unzipU_c (l : List Pu) (hw : wfRowU l) (w : World) (v : Value) (hv : SI kPu w v l) : Calls Try.prog 147 #[v] w fun e w' =>
    ∃ v0 v1 : Value, e = .returned (.tuple #[v0, v1, .int .i64 (unzipResU l).2.2]) ∧ FI kSp w.heap.size w' v0 (unzipResU l).1 ∧ FI (Kd.int .u64) w.heap.size w' v1 (unzipResU l).2.1 ∧ Below w.heap.size w w' := by
  obtain ⟨A, c, rfl, hc, hr⟩ := hv
  refine (pairs_Unzip_uint64.calls (3 * l.length + 2) A c l (unzipResU l).1 (unzipResU l).2.1 (unzipResU l).2.2 w hr hc (unzipU_eq l hw.1 hw.2 _ (by omega))).mono ?_
  rintro e w1 ⟨v0, v1, rfl, h0, h1, hb⟩
  exact ⟨v0, v1, rfl, .of_R h0 (Nat.le_refl _), .of_R h1 (Nat.le_refl _), hb⟩
theorem unzipResU_wf {l : List Pu} (hw : wfRowU l) : wfSps (unzipResU l).1 ∧ u64s (unzipResU l).2.1 ∧ (unzipResU l).2.1.length < 4398046511104 := by
  unfold unzipResU
  by_cases h : (fromRes (l.map (·.f0))).2 = 0
  · rw [if_pos h]
    obtain ⟨hr, hl, hl2, he⟩ := fromRes_ok h
    refine ⟨by rw [he]; exact spansOf_wf hr hl, fun x hx => ?_, by simpa using hw.2⟩
    obtain ⟨p, hp, rfl⟩ := List.mem_map.1 hx
    exact (hw.1 p hp).2
  · rw [if_neg h]; exact ⟨fun s hs => by simp at hs, fun s hs => by simp at hs, by simp⟩
def madeF (h : Fh) (p n : List Pu) : Fh := ⟨h.f0, h.f1, h.f2, h.f3, h.f4, (unzipResU p).1, (unzipResU n).1, (unzipResU p).2.1, (unzipResU n).2.1⟩
def makeF (h : Fh) (p n : List Pu) : Fh × Int := if (unzipResU p).2.2 ≠ 0 then (emptyF, (unzipResU p).2.2) else if (unzipResU n).2.2 ≠ 0 then (emptyF, (unzipResU n).2.2) else if checkF (madeF h p n) ≠ 0 then (emptyF, checkF (madeF h p n)) else (madeF h p n, 0)
theorem madeF_wf {h : Fh} {p n : List Pu} (hw : wfF h) (hp : wfRowU p) (hn : wfRowU n) : wfF (madeF h p n) := by
  obtain ⟨a0, a1, a2, a3, a4, -⟩ := hw
  exact ⟨a0, a1, a2, a3, a4, (unzipResU_wf hp).1, (unzipResU_wf hn).1, (unzipResU_wf hp).2.1, (unzipResU_wf hn).2.1, (unzipResU_wf hp).2.2, (unzipResU_wf hn).2.2⟩
set_option maxHeartbeats 8000000 in
set_option maxRecDepth 100000 in
theorem fmake_n (h : Fh) (p n : List Pu) (hw : wfF (madeF h p n)) (hp : wfRowU p) (hn : wfRowU n) (w : World) (v vp vn : Value) (hv : GI w v h) (hvp : SI kPu w vp p) (hvn : SI kPu w vn n) : Calls Try.prog 93 #[v, vp, vn] w fun e w' =>
    ∃ v', e = .returned (.tuple #[v', .int .i64 (makeF h p n).2]) ∧ GF w.heap.size w' v' (makeF h p n).1 ∧ Below w.heap.size w w' := by
  have hu := Try.underlying55
  obtain ⟨A5, c5, A6, c6, A7, c7, A8, c8, e, -⟩ := hv.open_
  subst e
  have HP := Aside0.mk hvp
  have HN := Aside0.mk hvn
  have HW := Aside0.mk hw
  have HC1 := fun w hv => unzipU_c p hp w vp hv
  have HC2 := fun w hv => unzipU_c n hn w vn hv
  clear hv hvp hvn hw hp hn
  unfold makeF madeF at *
  generalize unzipResU p = lp at *
  generalize unzipResU n = ln at *
  obtain ⟨sp, dp, ep⟩ := lp
  obtain ⟨sn, dn, en⟩ := ln
  simp only at HW HC1 HC2 ⊢
  replace HC1 := Aside0.mk HC1
  replace HC2 := Aside0.mk HC2
  by_cases c1 : ep = 0
  rotate_left
  · rw [if_pos c1]
    have c1a : (ep != 0) = true := bne_iff_ne.2 c1
    clear c1
    go_enter Try.func93, Try.ntmps93
    go_wp2_with (first | (go_at_call 147; (with_reducible refine (HC1.out _ (HP.out.below (below_alloc (below_alloc (Below.refl _ _) _) _))).mono ?_); rintro e w1 ⟨v0, v1, rfl, h0, h1, hb⟩; obtain ⟨B0, d0, rfl⟩ := h0.slice; obtain ⟨B1, d1, rfl⟩ := h1.slice; have HF0 := Aside0.mk (show FI kSp (w.heap.size + 1 + 1) w1 (.slice B0 sp.length d0) sp by simpa using h0); have HF1 := Aside0.mk (show FI (Kd.int .u64) (w.heap.size + 1 + 1) w1 (.slice B1 dp.length d1) dp by simpa using h1); have HB1 := Aside0.mk (below_then (below_alloc (below_alloc (Below.refl w.heap.size w) (.cells #[.int .i64 h.f0, .int .u64 h.f1, .int .u64 h.f2, .int .u64 h.f3, .int .u64 h.f4, .slice A5 h.f5.length c5, .slice A6 h.f6.length c6, .slice A7 h.f7.length c7, .slice A8 h.f8.length c8] 55)) (.cells #[.int .i64 0, .int .u64 0, .int .u64 0, .int .u64 0, .int .u64 0, .slice none 0 0, .slice none 0 0, .slice none 0 0, .slice none 0 0] 55)) (by simp; omega) hb); have HX1 := Aside0.mk (blk_below (blk_alloc (blk_new w (.cells #[.int .i64 h.f0, .int .u64 h.f1, .int .u64 h.f2, .int .u64 h.f3, .int .u64 h.f4, .slice A5 h.f5.length c5, .slice A6 h.f6.length c6, .slice A7 h.f7.length c7, .slice A8 h.f8.length c8] 55)) (.cells #[.int .i64 0, .int .u64 0, .int .u64 0, .int .u64 0, .int .u64 0, .slice none 0 0, .slice none 0 0, .slice none 0 0, .slice none 0 0] 55)) hb); have HY1 := Aside0.mk (show w1.heap[w.heap.size + 1]? = some (.cells #[.int .i64 0, .int .u64 0, .int .u64 0, .int .u64 0, .int .u64 0, .slice none 0 0, .slice none 0 0, .slice none 0 0, .slice none 0 0] 55 (0, 0)) from (blk_below (show ((w.alloc (.cells #[.int .i64 h.f0, .int .u64 h.f1, .int .u64 h.f2, .int .u64 h.f3, .int .u64 h.f4, .slice A5 h.f5.length c5, .slice A6 h.f6.length c6, .slice A7 h.f7.length c7, .slice A8 h.f8.length c8] 55)).alloc (.cells #[.int .i64 0, .int .u64 0, .int .u64 0, .int .u64 0, .int .u64 0, .slice none 0 0, .slice none 0 0, .slice none 0 0, .slice none 0 0] 55)).heap[w.heap.size + 1]? = _ by simpa using blk_new (w.alloc (.cells #[.int .i64 h.f0, .int .u64 h.f1, .int .u64 h.f2, .int .u64 h.f3, .int .u64 h.f4, .slice A5 h.f5.length c5, .slice A6 h.f6.length c6, .slice A7 h.f7.length c7, .slice A8 h.f8.length c8] 55)) (.cells #[.int .i64 0, .int .u64 0, .int .u64 0, .int .u64 0, .int .u64 0, .slice none 0 0, .slice none 0 0, .slice none 0 0, .slice none 0 0] 55)) hb)); have hfx := fun i => blk_cell HX1.out i; have hzx := fun i => blk_frozen HX1.out i; have hfy := fun i => blk_cell HY1.out i; have hzy := fun i => blk_frozen HY1.out i; clear h0 h1 hb))
    refine bodyPost_ret (results_ct rfl _ _ (w.heap.size + 1) 55 #[.int .i64 0, .int .u64 0, .int .u64 0, .int .u64 0, .int .u64 0, .slice none 0 0, .slice none 0 0, .slice none 0 0, .slice none 0 0] (0, 0) _ rfl (nine (blk_far (blk_far HY1.out (by show w.heap.size + 1 ≠ w.heap.size; omega) _) (by show w.heap.size + 1 ≠ w.heap.size; omega) _) _ _ _ _ _ _ _ _ _) Try.underlying55 rfl (by kernel_rfl)) rfl ?_
    exact ⟨_, rfl, GF.empty _ _, nine_below (belowS HB1.out.size HB1.out) (by omega) _ _ _ _ _ _ _ _ _⟩
  subst c1
  rw [if_neg (by simp)]
  by_cases c2 : en = 0
  rotate_left
  · rw [if_pos c2]
    have c2a : (en != 0) = true := bne_iff_ne.2 c2
    clear c2
    go_enter Try.func93, Try.ntmps93
    go_wp2_with (first | (go_at_call 147; (with_reducible refine (HC1.out _ (HP.out.below (below_alloc (below_alloc (Below.refl _ _) _) _))).mono ?_); rintro e w1 ⟨v0, v1, rfl, h0, h1, hb⟩; obtain ⟨B0, d0, rfl⟩ := h0.slice; obtain ⟨B1, d1, rfl⟩ := h1.slice; have HF0 := Aside0.mk (show FI kSp (w.heap.size + 1 + 1) w1 (.slice B0 sp.length d0) sp by simpa using h0); have HF1 := Aside0.mk (show FI (Kd.int .u64) (w.heap.size + 1 + 1) w1 (.slice B1 dp.length d1) dp by simpa using h1); have HB1 := Aside0.mk (below_then (below_alloc (below_alloc (Below.refl w.heap.size w) (.cells #[.int .i64 h.f0, .int .u64 h.f1, .int .u64 h.f2, .int .u64 h.f3, .int .u64 h.f4, .slice A5 h.f5.length c5, .slice A6 h.f6.length c6, .slice A7 h.f7.length c7, .slice A8 h.f8.length c8] 55)) (.cells #[.int .i64 0, .int .u64 0, .int .u64 0, .int .u64 0, .int .u64 0, .slice none 0 0, .slice none 0 0, .slice none 0 0, .slice none 0 0] 55)) (by simp; omega) hb); have HX1 := Aside0.mk (blk_below (blk_alloc (blk_new w (.cells #[.int .i64 h.f0, .int .u64 h.f1, .int .u64 h.f2, .int .u64 h.f3, .int .u64 h.f4, .slice A5 h.f5.length c5, .slice A6 h.f6.length c6, .slice A7 h.f7.length c7, .slice A8 h.f8.length c8] 55)) (.cells #[.int .i64 0, .int .u64 0, .int .u64 0, .int .u64 0, .int .u64 0, .slice none 0 0, .slice none 0 0, .slice none 0 0, .slice none 0 0] 55)) hb); have HY1 := Aside0.mk (show w1.heap[w.heap.size + 1]? = some (.cells #[.int .i64 0, .int .u64 0, .int .u64 0, .int .u64 0, .int .u64 0, .slice none 0 0, .slice none 0 0, .slice none 0 0, .slice none 0 0] 55 (0, 0)) from (blk_below (show ((w.alloc (.cells #[.int .i64 h.f0, .int .u64 h.f1, .int .u64 h.f2, .int .u64 h.f3, .int .u64 h.f4, .slice A5 h.f5.length c5, .slice A6 h.f6.length c6, .slice A7 h.f7.length c7, .slice A8 h.f8.length c8] 55)).alloc (.cells #[.int .i64 0, .int .u64 0, .int .u64 0, .int .u64 0, .int .u64 0, .slice none 0 0, .slice none 0 0, .slice none 0 0, .slice none 0 0] 55)).heap[w.heap.size + 1]? = _ by simpa using blk_new (w.alloc (.cells #[.int .i64 h.f0, .int .u64 h.f1, .int .u64 h.f2, .int .u64 h.f3, .int .u64 h.f4, .slice A5 h.f5.length c5, .slice A6 h.f6.length c6, .slice A7 h.f7.length c7, .slice A8 h.f8.length c8] 55)) (.cells #[.int .i64 0, .int .u64 0, .int .u64 0, .int .u64 0, .int .u64 0, .slice none 0 0, .slice none 0 0, .slice none 0 0, .slice none 0 0] 55)) hb)); have hfx := fun i => blk_cell HX1.out i; have hzx := fun i => blk_frozen HX1.out i; have hfy := fun i => blk_cell HY1.out i; have hzy := fun i => blk_frozen HY1.out i; clear h0 h1 hb) | (go_at_call 147; (with_reducible refine (HC2.out _ (HN.out.below (belowS (HB1.out.size) HB1.out))).mono ?_); rintro e w3 ⟨v2, v3, rfl, h2, h3, hb⟩; obtain ⟨B2, d2, rfl⟩ := h2.slice; obtain ⟨B3, d3, rfl⟩ := h3.slice; have HS2 := Aside0.mk (show w.heap.size + 1 + 1 ≤ w1.heap.size from by have := blk_lt HY1.out; omega); have HF2 := Aside0.mk (show FI kSp (w.heap.size + 1 + 1) w3 (.slice B2 sn.length d2) sn from FI.lower h2 (by have := HS2.out; simpa [World.setCell] using this)); have HF3 := Aside0.mk (show FI (Kd.int .u64) (w.heap.size + 1 + 1) w3 (.slice B3 dn.length d3) dn from FI.lower h3 (by have := HS2.out; simpa [World.setCell] using this)); have HK3 := Aside0.mk (show KA (w.heap.size + 1 + 1) w1 w3 from ((KA.set _ (by omega) _).trans (KA.set _ (by omega) _)).trans (KA.below hb)); have HB3 := Aside0.mk (below_then (belowS (HB1.out.size) HB1.out) (by have := HB1.out.size; simpa [World.setCell] using this) hb); have HX3 := Aside0.mk (blk_below (show ((w1.setCell ⟨w.heap.size, 5, none⟩ (.slice B0 sp.length d0)).setCell ⟨w.heap.size, 7, none⟩ (.slice B1 dp.length d1)).heap[w.heap.size]? = some (.cells #[.int .i64 h.f0, .int .u64 h.f1, .int .u64 h.f2, .int .u64 h.f3, .int .u64 h.f4, .slice B0 sp.length d0, .slice A6 h.f6.length c6, .slice B1 dp.length d1, .slice A8 h.f8.length c8] 55 (0, 0)) from blk_put (blk_put HX1.out 5 _ rfl) 7 _ rfl) hb); have HY3 := Aside0.mk (blk_below (show ((w1.setCell ⟨w.heap.size, 5, none⟩ (.slice B0 sp.length d0)).setCell ⟨w.heap.size, 7, none⟩ (.slice B1 dp.length d1)).heap[w.heap.size + 1]? = some (.cells #[.int .i64 0, .int .u64 0, .int .u64 0, .int .u64 0, .int .u64 0, .slice none 0 0, .slice none 0 0, .slice none 0 0, .slice none 0 0] 55 (0, 0)) from blk_far (blk_far HY1.out (by show w.heap.size + 1 ≠ w.heap.size; omega) _) (by show w.heap.size + 1 ≠ w.heap.size; omega) _) hb); clear hfx hzx hfy hzy; have hfx := fun i => blk_cell HX3.out i; have hzx := fun i => blk_frozen HX3.out i; have hfy := fun i => blk_cell HY3.out i; have hzy := fun i => blk_frozen HY3.out i; clear h2 h3 hb))
    refine bodyPost_ret (results_ct rfl _ _ (w.heap.size + 1) 55 #[.int .i64 0, .int .u64 0, .int .u64 0, .int .u64 0, .int .u64 0, .slice none 0 0, .slice none 0 0, .slice none 0 0, .slice none 0 0] (0, 0) _ rfl (nine (blk_far (blk_far HY3.out (by show w.heap.size + 1 ≠ w.heap.size; omega) _) (by show w.heap.size + 1 ≠ w.heap.size; omega) _) _ _ _ _ _ _ _ _ _) Try.underlying55 rfl (by kernel_rfl)) rfl ?_
    exact ⟨_, rfl, GF.empty _ _, nine_below (belowS HB3.out.size HB3.out) (by omega) _ _ _ _ _ _ _ _ _⟩
  subst c2
  rw [if_neg (by simp)]
  have hck : ∀ w v5 v6 v7 v8, SI kSp w v5 sp → SI kSp w v6 sn → SI (Kd.int .u64) w v7 dp → SI (Kd.int .u64) w v8 dn → Calls Try.prog 37 #[.agg #[.int .i64 h.f0, .int .u64 h.f1, .int .u64 h.f2, .int .u64 h.f3, .int .u64 h.f4, v5, v6, v7, v8]] w fun e w' => e = .returned (.int .i64 (checkF ⟨h.f0, h.f1, h.f2, h.f3, h.f4, sp, sn, dp, dn⟩)) ∧ Below w.heap.size w w' :=
    fun w v5 v6 v7 v8 h5 h6 h7 h8 => fcheck_c _ HW.out w _ (GI.mk (h := ⟨h.f0, h.f1, h.f2, h.f3, h.f4, sp, sn, dp, dn⟩) h5 h6 h7 h8)
  generalize checkF ⟨h.f0, h.f1, h.f2, h.f3, h.f4, sp, sn, dp, dn⟩ = ec at hck ⊢
  have HCK := Aside0.mk hck
  clear hck
  by_cases c3 : ec = 0
  rotate_left
  · rw [if_pos c3]
    have c3a : (ec != 0) = true := bne_iff_ne.2 c3
    clear c3
    go_enter Try.func93, Try.ntmps93
    go_wp2_with (first | (go_at_call 147; (with_reducible refine (HC1.out _ (HP.out.below (below_alloc (below_alloc (Below.refl _ _) _) _))).mono ?_); rintro e w1 ⟨v0, v1, rfl, h0, h1, hb⟩; obtain ⟨B0, d0, rfl⟩ := h0.slice; obtain ⟨B1, d1, rfl⟩ := h1.slice; have HF0 := Aside0.mk (show FI kSp (w.heap.size + 1 + 1) w1 (.slice B0 sp.length d0) sp by simpa using h0); have HF1 := Aside0.mk (show FI (Kd.int .u64) (w.heap.size + 1 + 1) w1 (.slice B1 dp.length d1) dp by simpa using h1); have HB1 := Aside0.mk (below_then (below_alloc (below_alloc (Below.refl w.heap.size w) (.cells #[.int .i64 h.f0, .int .u64 h.f1, .int .u64 h.f2, .int .u64 h.f3, .int .u64 h.f4, .slice A5 h.f5.length c5, .slice A6 h.f6.length c6, .slice A7 h.f7.length c7, .slice A8 h.f8.length c8] 55)) (.cells #[.int .i64 0, .int .u64 0, .int .u64 0, .int .u64 0, .int .u64 0, .slice none 0 0, .slice none 0 0, .slice none 0 0, .slice none 0 0] 55)) (by simp; omega) hb); have HX1 := Aside0.mk (blk_below (blk_alloc (blk_new w (.cells #[.int .i64 h.f0, .int .u64 h.f1, .int .u64 h.f2, .int .u64 h.f3, .int .u64 h.f4, .slice A5 h.f5.length c5, .slice A6 h.f6.length c6, .slice A7 h.f7.length c7, .slice A8 h.f8.length c8] 55)) (.cells #[.int .i64 0, .int .u64 0, .int .u64 0, .int .u64 0, .int .u64 0, .slice none 0 0, .slice none 0 0, .slice none 0 0, .slice none 0 0] 55)) hb); have HY1 := Aside0.mk (show w1.heap[w.heap.size + 1]? = some (.cells #[.int .i64 0, .int .u64 0, .int .u64 0, .int .u64 0, .int .u64 0, .slice none 0 0, .slice none 0 0, .slice none 0 0, .slice none 0 0] 55 (0, 0)) from (blk_below (show ((w.alloc (.cells #[.int .i64 h.f0, .int .u64 h.f1, .int .u64 h.f2, .int .u64 h.f3, .int .u64 h.f4, .slice A5 h.f5.length c5, .slice A6 h.f6.length c6, .slice A7 h.f7.length c7, .slice A8 h.f8.length c8] 55)).alloc (.cells #[.int .i64 0, .int .u64 0, .int .u64 0, .int .u64 0, .int .u64 0, .slice none 0 0, .slice none 0 0, .slice none 0 0, .slice none 0 0] 55)).heap[w.heap.size + 1]? = _ by simpa using blk_new (w.alloc (.cells #[.int .i64 h.f0, .int .u64 h.f1, .int .u64 h.f2, .int .u64 h.f3, .int .u64 h.f4, .slice A5 h.f5.length c5, .slice A6 h.f6.length c6, .slice A7 h.f7.length c7, .slice A8 h.f8.length c8] 55)) (.cells #[.int .i64 0, .int .u64 0, .int .u64 0, .int .u64 0, .int .u64 0, .slice none 0 0, .slice none 0 0, .slice none 0 0, .slice none 0 0] 55)) hb)); have hfx := fun i => blk_cell HX1.out i; have hzx := fun i => blk_frozen HX1.out i; have hfy := fun i => blk_cell HY1.out i; have hzy := fun i => blk_frozen HY1.out i; clear h0 h1 hb) | (go_at_call 147; (with_reducible refine (HC2.out _ (HN.out.below (belowS (HB1.out.size) HB1.out))).mono ?_); rintro e w3 ⟨v2, v3, rfl, h2, h3, hb⟩; obtain ⟨B2, d2, rfl⟩ := h2.slice; obtain ⟨B3, d3, rfl⟩ := h3.slice; have HS2 := Aside0.mk (show w.heap.size + 1 + 1 ≤ w1.heap.size from by have := blk_lt HY1.out; omega); have HF2 := Aside0.mk (show FI kSp (w.heap.size + 1 + 1) w3 (.slice B2 sn.length d2) sn from FI.lower h2 (by have := HS2.out; simpa [World.setCell] using this)); have HF3 := Aside0.mk (show FI (Kd.int .u64) (w.heap.size + 1 + 1) w3 (.slice B3 dn.length d3) dn from FI.lower h3 (by have := HS2.out; simpa [World.setCell] using this)); have HK3 := Aside0.mk (show KA (w.heap.size + 1 + 1) w1 w3 from ((KA.set _ (by omega) _).trans (KA.set _ (by omega) _)).trans (KA.below hb)); have HB3 := Aside0.mk (below_then (belowS (HB1.out.size) HB1.out) (by have := HB1.out.size; simpa [World.setCell] using this) hb); have HX3 := Aside0.mk (blk_below (show ((w1.setCell ⟨w.heap.size, 5, none⟩ (.slice B0 sp.length d0)).setCell ⟨w.heap.size, 7, none⟩ (.slice B1 dp.length d1)).heap[w.heap.size]? = some (.cells #[.int .i64 h.f0, .int .u64 h.f1, .int .u64 h.f2, .int .u64 h.f3, .int .u64 h.f4, .slice B0 sp.length d0, .slice A6 h.f6.length c6, .slice B1 dp.length d1, .slice A8 h.f8.length c8] 55 (0, 0)) from blk_put (blk_put HX1.out 5 _ rfl) 7 _ rfl) hb); have HY3 := Aside0.mk (blk_below (show ((w1.setCell ⟨w.heap.size, 5, none⟩ (.slice B0 sp.length d0)).setCell ⟨w.heap.size, 7, none⟩ (.slice B1 dp.length d1)).heap[w.heap.size + 1]? = some (.cells #[.int .i64 0, .int .u64 0, .int .u64 0, .int .u64 0, .int .u64 0, .slice none 0 0, .slice none 0 0, .slice none 0 0, .slice none 0 0] 55 (0, 0)) from blk_far (blk_far HY1.out (by show w.heap.size + 1 ≠ w.heap.size; omega) _) (by show w.heap.size + 1 ≠ w.heap.size; omega) _) hb); clear hfx hzx hfy hzy; have hfx := fun i => blk_cell HX3.out i; have hzx := fun i => blk_frozen HX3.out i; have hfy := fun i => blk_cell HY3.out i; have hzy := fun i => blk_frozen HY3.out i; clear h2 h3 hb) | (go_at_call 37; (with_reducible refine (HCK.out _ _ _ _ _ (HF0.out.at_ (HK3.out.trans ((KA.set _ (by omega) _).trans (KA.set _ (by omega) _)))) (HF2.out.at_ ((KA.set _ (by omega) _).trans (KA.set _ (by omega) _))) (HF1.out.at_ (HK3.out.trans ((KA.set _ (by omega) _).trans (KA.set _ (by omega) _)))) (HF3.out.at_ ((KA.set _ (by omega) _).trans (KA.set _ (by omega) _)))).mono ?_); rintro e w5 ⟨rfl, hb⟩; have HK5 := Aside0.mk (show KA (w.heap.size + 1 + 1) w3 w5 from ((KA.set _ (by omega) _).trans (KA.set _ (by omega) _)).trans (KA.below hb)); have HB5 := Aside0.mk (below_then (belowS (HB3.out.size) HB3.out) (by have := HB3.out.size; simpa [World.setCell] using this) hb); have HX5 := Aside0.mk (blk_below (show ((w3.setCell ⟨w.heap.size, 6, none⟩ (.slice B2 sn.length d2)).setCell ⟨w.heap.size, 8, none⟩ (.slice B3 dn.length d3)).heap[w.heap.size]? = some (.cells #[.int .i64 h.f0, .int .u64 h.f1, .int .u64 h.f2, .int .u64 h.f3, .int .u64 h.f4, .slice B0 sp.length d0, .slice B2 sn.length d2, .slice B1 dp.length d1, .slice B3 dn.length d3] 55 (0, 0)) from blk_put (blk_put HX3.out 6 _ rfl) 8 _ rfl) hb); have HY5 := Aside0.mk (blk_below (show ((w3.setCell ⟨w.heap.size, 6, none⟩ (.slice B2 sn.length d2)).setCell ⟨w.heap.size, 8, none⟩ (.slice B3 dn.length d3)).heap[w.heap.size + 1]? = some (.cells #[.int .i64 0, .int .u64 0, .int .u64 0, .int .u64 0, .int .u64 0, .slice none 0 0, .slice none 0 0, .slice none 0 0, .slice none 0 0] 55 (0, 0)) from blk_far (blk_far HY3.out (by show w.heap.size + 1 ≠ w.heap.size; omega) _) (by show w.heap.size + 1 ≠ w.heap.size; omega) _) hb); clear hfx hzx hfy hzy; have hfx := fun i => blk_cell HX5.out i; have hzx := fun i => blk_frozen HX5.out i; have hfy := fun i => blk_cell HY5.out i; have hzy := fun i => blk_frozen HY5.out i; clear hb))
    refine bodyPost_ret (results_ct rfl _ _ (w.heap.size + 1) 55 #[.int .i64 0, .int .u64 0, .int .u64 0, .int .u64 0, .int .u64 0, .slice none 0 0, .slice none 0 0, .slice none 0 0, .slice none 0 0] (0, 0) _ rfl (nine (HY5.out) _ _ _ _ _ _ _ _ _) Try.underlying55 rfl (by kernel_rfl)) rfl ?_
    exact ⟨_, rfl, GF.empty _ _, nine_below HB5.out (by omega) _ _ _ _ _ _ _ _ _⟩
  subst c3
  rw [if_neg (by simp)]
  go_enter Try.func93, Try.ntmps93
  go_wp2_with (first | (go_at_call 147; (with_reducible refine (HC1.out _ (HP.out.below (below_alloc (below_alloc (Below.refl _ _) _) _))).mono ?_); rintro e w1 ⟨v0, v1, rfl, h0, h1, hb⟩; obtain ⟨B0, d0, rfl⟩ := h0.slice; obtain ⟨B1, d1, rfl⟩ := h1.slice; have HF0 := Aside0.mk (show FI kSp (w.heap.size + 1 + 1) w1 (.slice B0 sp.length d0) sp by simpa using h0); have HF1 := Aside0.mk (show FI (Kd.int .u64) (w.heap.size + 1 + 1) w1 (.slice B1 dp.length d1) dp by simpa using h1); have HB1 := Aside0.mk (below_then (below_alloc (below_alloc (Below.refl w.heap.size w) (.cells #[.int .i64 h.f0, .int .u64 h.f1, .int .u64 h.f2, .int .u64 h.f3, .int .u64 h.f4, .slice A5 h.f5.length c5, .slice A6 h.f6.length c6, .slice A7 h.f7.length c7, .slice A8 h.f8.length c8] 55)) (.cells #[.int .i64 0, .int .u64 0, .int .u64 0, .int .u64 0, .int .u64 0, .slice none 0 0, .slice none 0 0, .slice none 0 0, .slice none 0 0] 55)) (by simp; omega) hb); have HX1 := Aside0.mk (blk_below (blk_alloc (blk_new w (.cells #[.int .i64 h.f0, .int .u64 h.f1, .int .u64 h.f2, .int .u64 h.f3, .int .u64 h.f4, .slice A5 h.f5.length c5, .slice A6 h.f6.length c6, .slice A7 h.f7.length c7, .slice A8 h.f8.length c8] 55)) (.cells #[.int .i64 0, .int .u64 0, .int .u64 0, .int .u64 0, .int .u64 0, .slice none 0 0, .slice none 0 0, .slice none 0 0, .slice none 0 0] 55)) hb); have HY1 := Aside0.mk (show w1.heap[w.heap.size + 1]? = some (.cells #[.int .i64 0, .int .u64 0, .int .u64 0, .int .u64 0, .int .u64 0, .slice none 0 0, .slice none 0 0, .slice none 0 0, .slice none 0 0] 55 (0, 0)) from (blk_below (show ((w.alloc (.cells #[.int .i64 h.f0, .int .u64 h.f1, .int .u64 h.f2, .int .u64 h.f3, .int .u64 h.f4, .slice A5 h.f5.length c5, .slice A6 h.f6.length c6, .slice A7 h.f7.length c7, .slice A8 h.f8.length c8] 55)).alloc (.cells #[.int .i64 0, .int .u64 0, .int .u64 0, .int .u64 0, .int .u64 0, .slice none 0 0, .slice none 0 0, .slice none 0 0, .slice none 0 0] 55)).heap[w.heap.size + 1]? = _ by simpa using blk_new (w.alloc (.cells #[.int .i64 h.f0, .int .u64 h.f1, .int .u64 h.f2, .int .u64 h.f3, .int .u64 h.f4, .slice A5 h.f5.length c5, .slice A6 h.f6.length c6, .slice A7 h.f7.length c7, .slice A8 h.f8.length c8] 55)) (.cells #[.int .i64 0, .int .u64 0, .int .u64 0, .int .u64 0, .int .u64 0, .slice none 0 0, .slice none 0 0, .slice none 0 0, .slice none 0 0] 55)) hb)); have hfx := fun i => blk_cell HX1.out i; have hzx := fun i => blk_frozen HX1.out i; have hfy := fun i => blk_cell HY1.out i; have hzy := fun i => blk_frozen HY1.out i; clear h0 h1 hb) | (go_at_call 147; (with_reducible refine (HC2.out _ (HN.out.below (belowS (HB1.out.size) HB1.out))).mono ?_); rintro e w3 ⟨v2, v3, rfl, h2, h3, hb⟩; obtain ⟨B2, d2, rfl⟩ := h2.slice; obtain ⟨B3, d3, rfl⟩ := h3.slice; have HS2 := Aside0.mk (show w.heap.size + 1 + 1 ≤ w1.heap.size from by have := blk_lt HY1.out; omega); have HF2 := Aside0.mk (show FI kSp (w.heap.size + 1 + 1) w3 (.slice B2 sn.length d2) sn from FI.lower h2 (by have := HS2.out; simpa [World.setCell] using this)); have HF3 := Aside0.mk (show FI (Kd.int .u64) (w.heap.size + 1 + 1) w3 (.slice B3 dn.length d3) dn from FI.lower h3 (by have := HS2.out; simpa [World.setCell] using this)); have HK3 := Aside0.mk (show KA (w.heap.size + 1 + 1) w1 w3 from ((KA.set _ (by omega) _).trans (KA.set _ (by omega) _)).trans (KA.below hb)); have HB3 := Aside0.mk (below_then (belowS (HB1.out.size) HB1.out) (by have := HB1.out.size; simpa [World.setCell] using this) hb); have HX3 := Aside0.mk (blk_below (show ((w1.setCell ⟨w.heap.size, 5, none⟩ (.slice B0 sp.length d0)).setCell ⟨w.heap.size, 7, none⟩ (.slice B1 dp.length d1)).heap[w.heap.size]? = some (.cells #[.int .i64 h.f0, .int .u64 h.f1, .int .u64 h.f2, .int .u64 h.f3, .int .u64 h.f4, .slice B0 sp.length d0, .slice A6 h.f6.length c6, .slice B1 dp.length d1, .slice A8 h.f8.length c8] 55 (0, 0)) from blk_put (blk_put HX1.out 5 _ rfl) 7 _ rfl) hb); have HY3 := Aside0.mk (blk_below (show ((w1.setCell ⟨w.heap.size, 5, none⟩ (.slice B0 sp.length d0)).setCell ⟨w.heap.size, 7, none⟩ (.slice B1 dp.length d1)).heap[w.heap.size + 1]? = some (.cells #[.int .i64 0, .int .u64 0, .int .u64 0, .int .u64 0, .int .u64 0, .slice none 0 0, .slice none 0 0, .slice none 0 0, .slice none 0 0] 55 (0, 0)) from blk_far (blk_far HY1.out (by show w.heap.size + 1 ≠ w.heap.size; omega) _) (by show w.heap.size + 1 ≠ w.heap.size; omega) _) hb); clear hfx hzx hfy hzy; have hfx := fun i => blk_cell HX3.out i; have hzx := fun i => blk_frozen HX3.out i; have hfy := fun i => blk_cell HY3.out i; have hzy := fun i => blk_frozen HY3.out i; clear h2 h3 hb) | (go_at_call 37; (with_reducible refine (HCK.out _ _ _ _ _ (HF0.out.at_ (HK3.out.trans ((KA.set _ (by omega) _).trans (KA.set _ (by omega) _)))) (HF2.out.at_ ((KA.set _ (by omega) _).trans (KA.set _ (by omega) _))) (HF1.out.at_ (HK3.out.trans ((KA.set _ (by omega) _).trans (KA.set _ (by omega) _)))) (HF3.out.at_ ((KA.set _ (by omega) _).trans (KA.set _ (by omega) _)))).mono ?_); rintro e w5 ⟨rfl, hb⟩; have HK5 := Aside0.mk (show KA (w.heap.size + 1 + 1) w3 w5 from ((KA.set _ (by omega) _).trans (KA.set _ (by omega) _)).trans (KA.below hb)); have HB5 := Aside0.mk (below_then (belowS (HB3.out.size) HB3.out) (by have := HB3.out.size; simpa [World.setCell] using this) hb); have HX5 := Aside0.mk (blk_below (show ((w3.setCell ⟨w.heap.size, 6, none⟩ (.slice B2 sn.length d2)).setCell ⟨w.heap.size, 8, none⟩ (.slice B3 dn.length d3)).heap[w.heap.size]? = some (.cells #[.int .i64 h.f0, .int .u64 h.f1, .int .u64 h.f2, .int .u64 h.f3, .int .u64 h.f4, .slice B0 sp.length d0, .slice B2 sn.length d2, .slice B1 dp.length d1, .slice B3 dn.length d3] 55 (0, 0)) from blk_put (blk_put HX3.out 6 _ rfl) 8 _ rfl) hb); have HY5 := Aside0.mk (blk_below (show ((w3.setCell ⟨w.heap.size, 6, none⟩ (.slice B2 sn.length d2)).setCell ⟨w.heap.size, 8, none⟩ (.slice B3 dn.length d3)).heap[w.heap.size + 1]? = some (.cells #[.int .i64 0, .int .u64 0, .int .u64 0, .int .u64 0, .int .u64 0, .slice none 0 0, .slice none 0 0, .slice none 0 0, .slice none 0 0] 55 (0, 0)) from blk_far (blk_far HY3.out (by show w.heap.size + 1 ≠ w.heap.size; omega) _) (by show w.heap.size + 1 ≠ w.heap.size; omega) _) hb); clear hfx hzx hfy hzy; have hfx := fun i => blk_cell HX5.out i; have hzx := fun i => blk_frozen HX5.out i; have hfy := fun i => blk_cell HY5.out i; have hzy := fun i => blk_frozen HY5.out i; clear hb))
  refine bodyPost_ret (results_ct rfl _ _ (w.heap.size + 1) 55 #[.int .i64 h.f0, .int .u64 h.f1, .int .u64 h.f2, .int .u64 h.f3, .int .u64 h.f4, .slice B0 sp.length d0, .slice B2 sn.length d2, .slice B1 dp.length d1, .slice B3 dn.length d3] (0, 0) _ rfl (nine (HY5.out) _ _ _ _ _ _ _ _ _) Try.underlying55 rfl (by kernel_rfl)) rfl ?_
  exact ⟨_, rfl, GF.mk (h := ⟨h.f0, h.f1, h.f2, h.f3, h.f4, sp, sn, dp, dn⟩) ((HF0.out.step (HK3.out.trans (nine_ka HK5.out (by omega) _ _ _ _ _ _ _ _ _))).lower (by omega)) ((HF2.out.step (nine_ka HK5.out (by omega) _ _ _ _ _ _ _ _ _)).lower (by omega)) ((HF1.out.step (HK3.out.trans (nine_ka HK5.out (by omega) _ _ _ _ _ _ _ _ _))).lower (by omega)) ((HF3.out.step (nine_ka HK5.out (by omega) _ _ _ _ _ _ _ _ _)).lower (by omega)), nine_below HB5.out (by omega) _ _ _ _ _ _ _ _ _⟩
theorem fmake_c (h : Fh) (hw : wfF h) (p n : List Pu) (hp : wfRowU p) (hn : wfRowU n) (w : World) (v vp vn : Value) (hv : GI w v h) (hvp : SI kPu w vp p) (hvn : SI kPu w vn n) : Calls Try.prog 93 #[v, vp, vn] w fun e w' =>
    ∃ v', e = .returned (.tuple #[v', .int .i64 (makeF h p n).2]) ∧ GF w.heap.size w' v' (makeF h p n).1 ∧ Below w.heap.size w w' := fmake_n h p n (madeF_wf hw hp hn) hp hn w v vp vn hv hvp hvn
end Go.Proofs.Ytooiccpmngmapaa.P
namespace Go.Proofs.Ytooiccpmngmapaa.P
open Go.RowKit Go.Proofs.YtooiccpmngmapaaW.PrintWords Go.Proofs.YtooiccpmngmapaaW.PrintLast Go.Proofs.YtooiccpmngmapaaW.PrintMore
attribute [local go_sem] max2_int min2_int max_two min_two max_three min_three max_four min_four
def fhist_Right.f (a0 : Int) : Option (Bool) := (hist_Threshold.f a0).bind fun t101 => (some t101)
set_option maxHeartbeats 8000000 in
set_option maxRecDepth 100000 in
theorem fhist_Right.calls (a0 : Int) (r : Bool) (w : World) (h : fhist_Right.f a0 = some r) :
  Calls Try.prog 146 #[.int .u64 a0] w fun e w' => e = .returned (.bool r) ∧ Drawn0 w w' := by
 have H : ((hist_Threshold.f a0).bind fun t101 => (some t101)) = some r := h
 clear h
 replace H := Option.bind_eq_some_iff.mp H
 obtain ⟨t101, A20, H⟩ := H
 replace H : (some t101) = some r := H
 have A2 := Aside0.mk A20
 clear A20
 obtain rfl := Option.some.inj H
 go_enter Try.func146, Try.ntmps146
 go_wp2_with (first | ((with_reducible refine gate_callee (f := 131) rfl ?_); refine goesM_ (some 4) Try.func131 #[.int .u64 a0] ?_; (with_reducible refine (hist_Threshold.calls a0 t101 _ A2.out).mono ?_); rintro e w' ⟨rfl, ⟨nd, rfl⟩⟩; refine ⟨_, rfl, ?_⟩; clear A2))
 go_ret
 exact ⟨by first | rfl | (simp; done) | (simp [*]; done), by repeat (first | exact Drawn0.refl _ | apply Drawn0.step)⟩
end Go.Proofs.Ytooiccpmngmapaa.P
namespace Go.Proofs.Ytooiccpmngmapaa.P
open Go.RowKit Go.Proofs.YtooiccpmngmapaaW.PrintWords Go.Proofs.YtooiccpmngmapaaW.PrintLast Go.Proofs.YtooiccpmngmapaaW.PrintMore
theorem fbits_run (v : Int) (w : World) : (callFunc 106 #[.int .u64 v]).run Try.prog w = .ok (.value (.float .f64 v.toNat)) w := by
  rw [run_callFunc_extern Try.func106 (by kernel_rfl) (by kernel_rfl) (by kernel_rfl) (e := Extern.MathFloatBits.float64frombits) (by kernel_rfl)]
  rfl
theorem tbits_run (v : Nat) (w : World) : (callFunc 145 #[.float .f64 v]).run Try.prog w = .ok (.value (.int .u64 v)) w := by
  rw [run_callFunc_extern Try.func145 (by kernel_rfl) (by kernel_rfl) (by kernel_rfl) (e := Extern.MathFloatBits.float64bits) (by kernel_rfl)]
  rfl
def fadd (a b : Int) : Option Nat := FloatKind.f64.format.add a.toNat b.toNat
theorem fadd_run (a b : Int) (s : Nat) (h : fadd a b = some s) (t : TypeId) (w : World) : (binOp .add t (.float .f64 a.toNat) (.float .f64 b.toNat)).run Try.prog w = .ok (.float .f64 s) w := by
  unfold fadd at h
  simp only [binOp, Op.floatArith, h]
  rfl
theorem fcv_run (n : Int) (w : World) : (convert 25 150 (.int .u64 n)).run Try.prog w = .ok (.float .f64 (FloatKind.f64.nearest n)) w := by
  kernel_rfl
def fhist_Float.f (v : Int) : Option Int := some (FloatKind.f64.nearest v : Nat)
theorem fhist_Float.calls (a0 : Int) (r : Int) (w : World) (h : fhist_Float.f a0 = some r) : Calls Try.prog 137 #[.int .u64 a0] w fun e w' => e = .returned (.int .u64 r) ∧ Drawn0 w w' := by
  unfold fhist_Float.f at h
  have hc := fcv_run a0
  generalize FloatKind.f64.nearest a0 = n at *
  cases h
  have hb := tbits_run n
  go_enter Try.func137, Try.ntmps137
  go_wp2
  go_ret
  exact ⟨rfl, Drawn0.refl _⟩
end Go.Proofs.Ytooiccpmngmapaa.P
namespace Go.Proofs.Ytooiccpmngmapaa.P
open Go.RowKit Go.Proofs.YtooiccpmngmapaaW.PrintWords Go.Proofs.YtooiccpmngmapaaW.PrintLast Go.Proofs.YtooiccpmngmapaaW.PrintMore
def right_f (v : Int) : Bool := decide (v < 9218868437227405312)
theorem fhist_Right_f (v : Int) : fhist_Right.f v = some (right_f v) := rfl
def scale_float.f (a b : Int) : Option (Int × Bool) := (fadd a b).bind fun s => some ((s : Int), right_f s)
theorem scale_float.calls (a0 a1 : Int) (r1 : Int) (r2 : Bool) (w : World) (h : scale_float.f a0 a1 = some (r1, r2)) : Calls Try.prog 92 #[.int .u64 a0, .int .u64 a1] w fun e w' => e = .returned (.tuple #[.int .u64 r1, .bool r2]) ∧ Drawn0 w w' := by
  unfold scale_float.f at h
  cases hs : fadd a0 a1 with
  | none => rw [hs] at h; cases h
  | some s =>
    rw [hs] at h
    cases h
    have h0 := fbits_run a0
    have h1 := fbits_run a1
    have hb := tbits_run s
    have ha := fadd_run a0 a1 s hs 150
    have HR := Aside0.mk (fun w => fhist_Right.calls (s : Int) _ w (fhist_Right_f (s : Int)))
    generalize a0.toNat = n0 at *
    generalize a1.toNat = n1 at *
    generalize right_f (s : Int) = rr at *
    go_enter Try.func92, Try.ntmps92
    go_wp2_with (go_at_call 146; (with_reducible refine (HR.out _).mono ?_); rintro e w1 ⟨rfl, hd⟩)
    go_ret2
    exact ⟨rfl, hd⟩
end Go.Proofs.Ytooiccpmngmapaa.P
namespace Go.Proofs.Ytooiccpmngmapaa.P
open Go.RowKit Go.Proofs.YtooiccpmngmapaaW.PrintWords Go.Proofs.YtooiccpmngmapaaW.PrintLast Go.Proofs.YtooiccpmngmapaaW.PrintMore
attribute [local go_sem] max2_int min2_int max_two min_two max_three min_three max_four min_four
mutual
def scale_widen_uint64.l0 : Nat → Int → List (S192) → List (S192) → Int → Int → Option ((List (S192)) × Bool)
 | 0, _, _, _, _, _ => none
 | k + 1, x1, x8, x15, x16, x17 => if x17 < x16 then (if 0 ≤ x17 then (if x17 < (x15.length : Int) then ((scale_Place.f k ((rd_T192 x15 x17).f0) x1).bind fun t103 => (if (x8.length : Int) > 0 then (if 0 ≤ (wrap64 ((x8.length : Int) - 1)) then (if (wrap64 ((x8.length : Int) - 1)) < (x8.length : Int) then (scale_widen_uint64.j1 k x1 x8 t103 (x8.length : Int) x15 x16 x17 (((rd_T192 x8 (wrap64 ((x8.length : Int) - 1))).f0) == t103) ((rd_T192 x15 x17).f0) ((rd_T192 x15 x17).f1)) else (none)) else (none)) else (scale_widen_uint64.j1 k x1 x8 t103 (x8.length : Int) x15 x16 x17 false ((rd_T192 x15 x17).f0) ((rd_T192 x15 x17).f1)))) else (none)) else (none)) else (some (x8, true))
def scale_widen_uint64.j1 : Nat → Int → List (S192) → Int → Int → List (S192) → Int → Int → Bool → Int → Int → Option ((List (S192)) × Bool)
 | 0, _, _, _, _, _, _, _, _, _, _ => none
 | k + 1, x1, x8, x11, x12, x15, x16, x17, x38, x103000, x103001 => if x38 = true then (if 0 ≤ (wrap64 (x12 - 1)) then (if (wrap64 (x12 - 1)) < (x8.length : Int) then ((scale_float.f ((rd_T192 x8 (wrap64 (x12 - 1))).f1) x103001).bind fun bt106 => (if bt106.2 = true then (scale_widen_uint64.l0 k x1 (x8.set ((wrap64 (x12 - 1)) : Int).toNat (⟨(rd_T192 x8 (wrap64 (x12 - 1))).f0, bt106.1⟩ : S192)) x15 x16 (wrap64 (x17 + 1))) else (some (([] : List (S192)), false)))) else (none)) else (none)) else (if x8.length < 8796093022208 then (scale_widen_uint64.l0 k x1 (x8 ++ [(⟨x11, x103001⟩ : S192)]) x15 x16 (wrap64 (x17 + 1))) else (none))
end
def scale_widen_uint64.f (k : Nat) (l0 : List (S192)) (a1 : Int) : Option ((List (S192)) × Bool) := scale_widen_uint64.l0 k a1 ([] : List (S192)) l0 (l0.length : Int) 0
set_option maxHeartbeats 8000000 in
set_option maxRecDepth 100000 in
theorem scale_widen_uint64.calls (k : Nat) (A0 : Option Addr) (c0 : Nat) (l0 : List (S192)) (a1 : Int) (r1 : List (S192)) (r2 : Bool) (w : World) (hr0 : Kd.C k192 w A0 l0.length l0) (hc0 : l0.length ≤ c0) (h : scale_widen_uint64.f k l0 a1 = some (r1, r2)) :
  Calls Try.prog 91 #[.slice A0 l0.length c0, .int .i64 a1, .func (.func 92) #[] #[]] w fun e w' => ∃ v0_ : Value, e = .returned (.tuple #[v0_, .bool r2]) ∧ Kd.R k192 192 w' w.heap.size (fun _ => True) v0_ r1 ∧ Below w.heap.size w w' := by
 have hu192 := Try.underlying192
 have HR0 := Aside0.mk hr0
 have HC0 := Aside0.mk hc0
 clear hr0 hc0
 have HB := Aside0.mk (Below.refl w.heap.size w)
 have H : (scale_widen_uint64.l0 k a1 ([] : List (S192)) l0 (l0.length : Int) 0) = some (r1, r2) := h
 clear h
 have H' := Aside0.mk H
 clear H
 go_enter Try.func91, Try.ntmps91
 go_wp2
 repeat (go_quiet (fail); try go_wp2)
 go_loopg [8, 17] k (fun kq v8 v17 w' => ∃ (x8_1 : List (S192)) (x17_1 : Int), v17 = .int .i64 x17_1 ∧ Aside0 (scale_widen_uint64.l0 kq a1 x8_1 l0 (l0.length : Int) x17_1 = some (r1, r2)) ∧ Aside0 (kq ≤ k) ∧ Aside0 (Kd.R k192 192 w' w.heap.size (fun _ => True) v8 x8_1) ∧ Aside0 (Below w.heap.size w w'))
 case atStart => exact ⟨(([] : List (S192))), (0), (by first | rfl | (simp; done) | (simp [*]; done)), H', ⟨Nat.le_refl _⟩, ⟨by first | exact Kd.R_nil _ _ _ _ _ | exact Kd.N_nil _ _ _ _ _ | exact Kd.V_nil _ _ _ _ _ | exact Kd.Q_nil _ _ _ _ _ | exact Kd.S_nil _ _ _ _ _⟩, ⟨by repeat (first | (with_reducible first | exact HB.out | apply below_alloc | apply pw_below_drewN | apply below_drew1) | exact HB.out)⟩⟩
 case round =>
  clear H'
  try clear p2
  obtain ⟨x8_1, x17_1, rfl, HA, HK1, HO_8, HB⟩ := hrel
  cases gk with
  | zero => exact absurd HA.out (by simp [scale_widen_uint64.l0])
  | succ k1 =>
   have H := HA.out
   clear HA
   simp only [scale_widen_uint64.l0] at H
   by_cases c4 : x17_1 < (l0.length : Int)
   ·rw [if_pos c4] at H
    have c4b0 : decide (x17_1 < (l0.length : Int)) = true := decide_eq_true c4
    clear c4
    by_cases c5 : 0 ≤ x17_1
    ·rw [if_pos c5] at H
     have c5b0 : decide (0 ≤ x17_1) = true := decide_eq_true c5
     clear c5
     by_cases c6 : x17_1 < (l0.length : Int)
     ·rw [if_pos c6] at H
      have c6b0 : decide (x17_1 < (l0.length : Int)) = true := decide_eq_true c6
      clear c6
      replace H := Option.bind_eq_some_iff.mp H
      obtain ⟨t103, A70, H⟩ := H
      replace H : (if (x8_1.length : Int) > 0 then (if 0 ≤ (wrap64 ((x8_1.length : Int) - 1)) then (if (wrap64 ((x8_1.length : Int) - 1)) < (x8_1.length : Int) then (scale_widen_uint64.j1 k1 a1 x8_1 t103 (x8_1.length : Int) l0 (l0.length : Int) x17_1 (((rd_T192 x8_1 (wrap64 ((x8_1.length : Int) - 1))).f0) == t103) ((rd_T192 l0 x17_1).f0) ((rd_T192 l0 x17_1).f1)) else (none)) else (none)) else (scale_widen_uint64.j1 k1 a1 x8_1 t103 (x8_1.length : Int) l0 (l0.length : Int) x17_1 false ((rd_T192 l0 x17_1).f0) ((rd_T192 l0 x17_1).f1))) = some (r1, r2) := H
      have A7 := Aside0.mk A70
      clear A70
      have HC8 := Aside0.mk H
      clear H
      have p101 : 0 ≤ (x17_1 : Int) := of_decide_eq_true (by assumption)
      have q101 : x17_1 < (l0.length : Int) := of_decide_eq_true (by assumption)
      obtain ⟨ad101, e101, hx101_0, hx101_1⟩ := at_T192 HR0.out x17_1 p101 q101
      cases e101
      replace hx101_0 := (HB.out.cell (World.block_lt_of_cell? w _ hx101_0)).trans hx101_0
      replace hx101_1 := (HB.out.cell (World.block_lt_of_cell? w _ hx101_1)).trans hx101_1
      replace p101 := eq_true p101
      replace q101 := eq_true q101
      go_upto_region 7 with (first | ((with_reducible refine gate_dst (N := 10) rfl ?_); refine box_event ?hg (N := 10) ?hd (cs := #[.int .i64 0, .int .u64 0]) (t := 192) ?hr ?_; (case hd => rfl); (case hg => rfl); (case hr => first | (go_simp; done) | (go_simp; rfl)); intro gb102 hg w9 hbox hb; have BK102 := Aside0.mk (hbox); have GW102 := Aside0.mk ((by rw [hg]; exact (below_size (below_u HB.out)) : w.heap.size ≤ gb102)); have GE102 := Aside0.mk ((by rw [hg]; exact (below_size (below_u HB.out)) : w.heap.size ≤ gb102)); replace HO_8 := Aside0.mk (Kd.R_below (Kd.R_elderB (Kd.R_u HO_8.out) gb102 (Nat.le_of_eq hg.symm)) hb); replace HB := Aside0.mk (below_step (below_u HB.out) hb); clear hb hbox hg; have hcz10_0 := blk_cell BK102.out; have hfz10_0 := blk_frozen BK102.out) | (go_at_call 77; (with_reducible refine (scale_Place.calls k1 ((rd_T192 l0 x17_1).f0) a1 t103 _ A7.out).mono ?_); rintro e w' ⟨rfl, ⟨nd, rfl⟩⟩; (try first | exact ⟨rfl, _, World.drewN_drewN _ _ _⟩ | exact ⟨rfl, _, Eq.trans (World.drewN_drewN _ _ _) (congrArg (World.drewN _) (Nat.add_assoc _ _ _))⟩); clear A7; obtain ⟨Ao11, co11, eo11⟩ := Kd.R_slice HO_8.out; subst eo11))
      repeat (go_quiet (first | ((with_reducible refine gate_dst (N := 10) rfl ?_); refine box_event ?hg (N := 10) ?hd (cs := #[.int .i64 0, .int .u64 0]) (t := 192) ?hr ?_; (case hd => rfl); (case hg => rfl); (case hr => first | (go_simp; done) | (go_simp; rfl)); intro gb102 hg w9 hbox hb; have BK102 := Aside0.mk (hbox); have GW102 := Aside0.mk ((by rw [hg]; exact (below_size (below_u HB.out)) : w.heap.size ≤ gb102)); have GE102 := Aside0.mk ((by rw [hg]; exact (below_size (below_u HB.out)) : w.heap.size ≤ gb102)); replace HO_8 := Aside0.mk (Kd.R_below (Kd.R_elderB (Kd.R_u HO_8.out) gb102 (Nat.le_of_eq hg.symm)) hb); replace HB := Aside0.mk (below_step (below_u HB.out) hb); clear hb hbox hg; have hcz10_0 := blk_cell BK102.out; have hfz10_0 := blk_frozen BK102.out) | (go_at_call 77; (with_reducible refine (scale_Place.calls k1 ((rd_T192 l0 x17_1).f0) a1 t103 _ A7.out).mono ?_); rintro e w' ⟨rfl, ⟨nd, rfl⟩⟩; (try first | exact ⟨rfl, _, World.drewN_drewN _ _ _⟩ | exact ⟨rfl, _, Eq.trans (World.drewN_drewN _ _ _) (congrArg (World.drewN _) (Nat.add_assoc _ _ _))⟩); clear A7; obtain ⟨Ao11, co11, eo11⟩ := Kd.R_slice HO_8.out; subst eo11)); go_upto_region 7 with (first | ((with_reducible refine gate_dst (N := 10) rfl ?_); refine box_event ?hg (N := 10) ?hd (cs := #[.int .i64 0, .int .u64 0]) (t := 192) ?hr ?_; (case hd => rfl); (case hg => rfl); (case hr => first | (go_simp; done) | (go_simp; rfl)); intro gb102 hg w9 hbox hb; have BK102 := Aside0.mk (hbox); have GW102 := Aside0.mk ((by rw [hg]; exact (below_size (below_u HB.out)) : w.heap.size ≤ gb102)); have GE102 := Aside0.mk ((by rw [hg]; exact (below_size (below_u HB.out)) : w.heap.size ≤ gb102)); replace HO_8 := Aside0.mk (Kd.R_below (Kd.R_elderB (Kd.R_u HO_8.out) gb102 (Nat.le_of_eq hg.symm)) hb); replace HB := Aside0.mk (below_step (below_u HB.out) hb); clear hb hbox hg; have hcz10_0 := blk_cell BK102.out; have hfz10_0 := blk_frozen BK102.out) | (go_at_call 77; (with_reducible refine (scale_Place.calls k1 ((rd_T192 l0 x17_1).f0) a1 t103 _ A7.out).mono ?_); rintro e w' ⟨rfl, ⟨nd, rfl⟩⟩; (try first | exact ⟨rfl, _, World.drewN_drewN _ _ _⟩ | exact ⟨rfl, _, Eq.trans (World.drewN_drewN _ _ _) (congrArg (World.drewN _) (Nat.add_assoc _ _ _))⟩); clear A7; obtain ⟨Ao11, co11, eo11⟩ := Kd.R_slice HO_8.out; subst eo11)))
      (try simp only [Act.put, List.setIfInBounds_toArray, List.set_cons_zero, List.set_cons_succ])
      go_cut [38] (fun v38 wc => ∃ (kq : Nat) (x38_7 : Bool), v38 = .bool x38_7 ∧ Aside0 (scale_widen_uint64.j1 kq a1 x8_1 t103 (x8_1.length : Int) l0 (l0.length : Int) x17_1 x38_7 ((rd_T192 l0 x17_1).f0) ((rd_T192 l0 x17_1).f1) = some (r1, r2)) ∧ Aside0 (kq ≤ k1) ∧ Aside0 (Kd.R k192 192 wc w.heap.size (fun k_ => k_ ≠ gb102) (.slice Ao11 x8_1.length co11) x8_1) ∧ Aside0 (wc.heap[gb102]? = some (.cells #[.int .i64 ((rd_T192 l0 x17_1).f0), .int .u64 ((rd_T192 l0 x17_1).f1)] 192 (0, 0))) ∧ Aside0 (Below w.heap.size w wc))
      case first =>
       have H := HC8.out
       clear HC8
       by_cases c12 : (x8_1.length : Int) > 0
       ·rw [if_pos c12] at H
        have c12b0 : decide (0 < (x8_1.length : Int)) = true := decide_eq_true c12
        have c12b1 : decide (0 < x8_1.length) = true := decide_eq_true (by omega)
        clear c12
        (first | rw [c12b0] | (simp only [i64_w, i32_w]; rw [c12b0]) | skip)
        obtain ⟨ji13, hji13⟩ : ∃ j_ : Int, (wrap64 ((x8_1.length : Int) - 1)) = j_ := ⟨_, rfl⟩
        replace H : (if 0 ≤ (ji13) then (if (ji13) < (x8_1.length : Int) then (scale_widen_uint64.j1 k1 a1 x8_1 t103 (x8_1.length : Int) l0 (l0.length : Int) x17_1 (((rd_T192 x8_1 (ji13)).f0) == t103) ((rd_T192 l0 x17_1).f0) ((rd_T192 l0 x17_1).f1)) else (none)) else (none)) = some (r1, r2) := by first | (rw [hji13] at H; exact H) | (simp only [hji13] at H ⊢; exact H)
        have hji13w : (IntKind.i64.wrap ((x8_1.length : Int) - 1)) = ji13 := (i64_w _).trans hji13
        by_cases c14 : 0 ≤ (ji13)
        ·rw [if_pos c14] at H
         have c14b0 : decide (0 ≤ (ji13)) = true := decide_eq_true c14
         clear c14
         by_cases c15 : (ji13) < (x8_1.length : Int)
         ·rw [if_pos c15] at H
          have c15b0 : decide ((ji13) < (x8_1.length : Int)) = true := decide_eq_true c15
          clear c15
          have H' := Aside0.mk H
          clear H
          have p104 : 0 ≤ ((ji13) : Int) := of_decide_eq_true (by assumption)
          have q104 : (ji13) < (x8_1.length : Int) := of_decide_eq_true (by assumption)
          obtain ⟨ad104, e104, hx104_0, hx104_1⟩ := at_T192 (Kd.R_reads' HO_8.out).2.2 (ji13) p104 q104
          cases e104
          have hn104_0 : ad104.block ≠ gb102 := Kd.own_blk (by first | exact Kd.R_ne HO_8.out BK102.out (by decide) | exact Kd.R_away HO_8.out (fun _ hk => hk.2))
          have hn104_1 : ad104.block ≠ gb102 := Kd.own_blk (by first | exact Kd.R_ne HO_8.out BK102.out (by decide) | exact Kd.R_away HO_8.out (fun _ hk => hk.2))
          replace hx104_0 := (cell_far (p := ⟨gb102, 0, none⟩) (by first | (rw [add_block]; exact hn104_0) | (show (Addr.add _ _).block ≠ _; rw [add_block]; exact hn104_0) | exact hn104_0) (.int .i64 ((rd_T192 l0 x17_1).f0))).trans hx104_0
          replace hx104_1 := (cell_far (p := ⟨gb102, 0, none⟩) (by first | (rw [add_block]; exact hn104_0) | (show (Addr.add _ _).block ≠ _; rw [add_block]; exact hn104_0) | exact hn104_0) (.int .i64 ((rd_T192 l0 x17_1).f0))).trans hx104_1
          replace hx104_0 := (cell_far (p := ⟨gb102, 1, none⟩) (by first | (rw [add_block]; exact hn104_1) | (show (Addr.add _ _).block ≠ _; rw [add_block]; exact hn104_1) | exact hn104_1) (.int .u64 ((rd_T192 l0 x17_1).f1))).trans hx104_0
          replace hx104_1 := (cell_far (p := ⟨gb102, 1, none⟩) (by first | (rw [add_block]; exact hn104_1) | (show (Addr.add _ _).block ≠ _; rw [add_block]; exact hn104_1) | exact hn104_1) (.int .u64 ((rd_T192 l0 x17_1).f1))).trans hx104_1
          (try have hy104_0 := fun (n_ : Nat) => (show ((((w9.drewN n_).setCell ⟨gb102, 0, none⟩ (.int .i64 ((rd_T192 l0 x17_1).f0))).setCell ⟨gb102, 1, none⟩ (.int .u64 ((rd_T192 l0 x17_1).f1)))).cell? _ = some _ from hx104_0))
          (try have hy104_1 := fun (n_ : Nat) => (show ((((w9.drewN n_).setCell ⟨gb102, 0, none⟩ (.int .i64 ((rd_T192 l0 x17_1).f0))).setCell ⟨gb102, 1, none⟩ (.int .u64 ((rd_T192 l0 x17_1).f1)))).cell? _ = some _ from hx104_1))
          clear hn104_0
          clear hn104_1
          replace p104 := eq_true p104
          replace q104 := eq_true q104
          go_wp2
          repeat (go_quiet (fail); try go_wp2)
          go_meet
          case rel => exact ⟨_, ((((rd_T192 x8_1 (ji13)).f0) == t103)), (by first | rfl | (simp; done) | (simp only [← hji13] <;> (first | rfl | simp)) | (simp [*]; done)), H', ⟨by have := HK1.out; first | omega | exact Nat.le_refl _⟩, ⟨by (repeat with_reducible refine Kd.R_q ?_); exact Kd.R_mono (Kd.R_far (p := ⟨gb102, 1, none⟩) (Kd.R_far (p := ⟨gb102, 0, none⟩) (Kd.R_mono HO_8.out (fun k_ hk => (⟨hk, hk.2⟩ : _ ∧ k_ ≠ gb102))) (fun _ hk => hk.2) (.int .i64 ((rd_T192 l0 x17_1).f0))) (fun _ hk => hk.2) (.int .u64 ((rd_T192 l0 x17_1).f1))) (fun _ hk => hk.1.2)⟩, ⟨by (repeat with_reducible refine blk_q ?_); refine blk_put (cs := #[.int .i64 ((rd_T192 l0 x17_1).f0), .int .u64 0]) ?_ 1 _ rfl; (repeat with_reducible refine blk_q ?_); refine blk_put (cs := #[.int .i64 0, .int .u64 0]) ?_ 0 _ rfl; (repeat with_reducible refine blk_q ?_); exact BK102.out⟩, ⟨by repeat (first | (with_reducible first | exact HB.out | apply below_alloc | apply pw_below_drewN | apply below_drew1 | refine below_set ?_ GE102.out) | exact HB.out)⟩⟩
         rw [if_neg c15] at H
         exact absurd H (by simp)
        rw [if_neg c14] at H
        exact absurd H (by simp)
       rw [if_neg c12] at H
       have c12b0 : decide (0 < (x8_1.length : Int)) = false := decide_eq_false c12
       have c12b1 : decide (0 < x8_1.length) = false := decide_eq_false (by omega)
       clear c12
       (first | rw [c12b0] | (simp only [i64_w, i32_w]; rw [c12b0]) | skip)
       have H' := Aside0.mk H
       clear H
       go_wp2
       repeat (go_quiet (fail); try go_wp2)
       go_meet
       case rel => exact ⟨_, (false), (by first | rfl | (simp; done) | (simp [*]; done)), H', ⟨by have := HK1.out; first | omega | exact Nat.le_refl _⟩, ⟨by (repeat with_reducible refine Kd.R_q ?_); exact Kd.R_mono (Kd.R_far (p := ⟨gb102, 1, none⟩) (Kd.R_far (p := ⟨gb102, 0, none⟩) (Kd.R_mono HO_8.out (fun k_ hk => (⟨hk, hk.2⟩ : _ ∧ k_ ≠ gb102))) (fun _ hk => hk.2) (.int .i64 ((rd_T192 l0 x17_1).f0))) (fun _ hk => hk.2) (.int .u64 ((rd_T192 l0 x17_1).f1))) (fun _ hk => hk.1.2)⟩, ⟨by (repeat with_reducible refine blk_q ?_); refine blk_put (cs := #[.int .i64 ((rd_T192 l0 x17_1).f0), .int .u64 0]) ?_ 1 _ rfl; (repeat with_reducible refine blk_q ?_); refine blk_put (cs := #[.int .i64 0, .int .u64 0]) ?_ 0 _ rfl; (repeat with_reducible refine blk_q ?_); exact BK102.out⟩, ⟨by repeat (first | (with_reducible first | exact HB.out | apply below_alloc | apply pw_below_drewN | apply below_drew1 | refine below_set ?_ GE102.out) | exact HB.out)⟩⟩
      case rest =>
       clear HC8
       try clear c1
       try clear p1
       try clear q1
       try clear hx1
       try clear p2
       try clear c4
       try clear c4b0
       try clear c5
       try clear c5b0
       try clear c6
       try clear c6b0
       try clear p6
       try clear c9
       try clear p10
       try clear q10
       try clear hx10
       try clear c12
       try clear c12b0
       try clear c12b1
       try clear c14
       try clear c14b0
       try clear c15
       try clear c15b0
       try clear hcz10_0
       try clear hfz10_0
       try clear hx101_0
       try clear hx101_1
       try clear hx104_0
       try clear hx104_1
       try clear p101
       try clear p104
       try clear p2
       try clear q101
       try clear q104
       obtain ⟨kq, x38_7, rfl, HA, HJ7, HO_8, BK102, HB⟩ := hcut
       cases kq with
       | zero => exact absurd HA.out (by simp [scale_widen_uint64.j1])
       | succ kj7 =>
        have H := HA.out
        clear HA
        simp only [scale_widen_uint64.j1] at H
        by_cases c16 : x38_7 = true
        ·subst c16
         have H1 : (if 0 ≤ (wrap64 ((x8_1.length : Int) - 1)) then (if (wrap64 ((x8_1.length : Int) - 1)) < (x8_1.length : Int) then ((scale_float.f ((rd_T192 x8_1 (wrap64 ((x8_1.length : Int) - 1))).f1) ((rd_T192 l0 x17_1).f1)).bind fun bt106 => (if bt106.2 = true then (scale_widen_uint64.l0 kj7 a1 (x8_1.set ((wrap64 ((x8_1.length : Int) - 1)) : Int).toNat (⟨(rd_T192 x8_1 (wrap64 ((x8_1.length : Int) - 1))).f0, bt106.1⟩ : S192)) l0 (l0.length : Int) (wrap64 (x17_1 + 1))) else (some (([] : List (S192)), false)))) else (none)) else (none)) = some (r1, r2) := by rw [if_pos rfl] at H; exact H
         clear H
         have H := H1
         clear H1
         obtain ⟨ji17, hji17⟩ : ∃ j_ : Int, (wrap64 ((x8_1.length : Int) - 1)) = j_ := ⟨_, rfl⟩
         replace H : (if 0 ≤ (ji17) then (if (ji17) < (x8_1.length : Int) then ((scale_float.f ((rd_T192 x8_1 (ji17)).f1) ((rd_T192 l0 x17_1).f1)).bind fun bt106 => (if bt106.2 = true then (scale_widen_uint64.l0 kj7 a1 (x8_1.set ((ji17) : Int).toNat (⟨(rd_T192 x8_1 (ji17)).f0, bt106.1⟩ : S192)) l0 (l0.length : Int) (wrap64 (x17_1 + 1))) else (some (([] : List (S192)), false)))) else (none)) else (none)) = some (r1, r2) := by first | (rw [hji17] at H; exact H) | (simp only [hji17] at H ⊢; exact H)
         have hji17w : (IntKind.i64.wrap ((x8_1.length : Int) - 1)) = ji17 := (i64_w _).trans hji17
         by_cases c18 : 0 ≤ (ji17)
         ·rw [if_pos c18] at H
          have c18b0 : decide (0 ≤ (ji17)) = true := decide_eq_true c18
          clear c18
          by_cases c19 : (ji17) < (x8_1.length : Int)
          ·rw [if_pos c19] at H
           have c19b0 : decide ((ji17) < (x8_1.length : Int)) = true := decide_eq_true c19
           clear c19
           replace H := Option.bind_eq_some_iff.mp H
           obtain ⟨⟨t106, t107⟩, A200, H⟩ := H
           replace H : (if t107 = true then (scale_widen_uint64.l0 kj7 a1 (x8_1.set ((ji17) : Int).toNat (⟨(rd_T192 x8_1 (ji17)).f0, t106⟩ : S192)) l0 (l0.length : Int) (wrap64 (x17_1 + 1))) else (some (([] : List (S192)), false))) = some (r1, r2) := H
           have A20 := Aside0.mk A200
           clear A200
           by_cases c21 : t107 = true
           ·subst c21
            have H1 : (scale_widen_uint64.l0 kj7 a1 (x8_1.set ((ji17) : Int).toNat (⟨(rd_T192 x8_1 (ji17)).f0, t106⟩ : S192)) l0 (l0.length : Int) (wrap64 (x17_1 + 1))) = some (r1, r2) := by rw [if_pos rfl] at H; exact H
            clear H
            have H := H1
            clear H1
            obtain ⟨y108, hy108⟩ : ∃ y_ : List (S192), y_ = (x8_1.set ((ji17) : Int).toNat (⟨(rd_T192 x8_1 (ji17)).f0, t106⟩ : S192)) := ⟨_, rfl⟩
            replace H : (scale_widen_uint64.l0 kj7 a1 y108 l0 (l0.length : Int) (wrap64 (x17_1 + 1))) = some (r1, r2) := by first | (rw [hy108]; with_reducible exact H) | (have H2_ := (Option.bind_some _ _).symm.trans H; rw [hy108]; with_reducible exact H2_) | (have H2_ := (Option.bind_some _ _).symm.trans H; with_reducible exact H2_) | with_reducible exact H | (rw [hy108]; exact H) | exact H
            have Ny108 := Aside0.mk hy108
            clear hy108
            have H' := Aside0.mk H
            clear H
            have p105 : 0 ≤ ((ji17) : Int) := of_decide_eq_true (by assumption)
            have q105 : (ji17) < (x8_1.length : Int) := of_decide_eq_true (by assumption)
            obtain ⟨ad105, e105, hx105_0, hx105_1⟩ := at_T192 (Kd.R_reads' HO_8.out).2.2 (ji17) p105 q105
            cases e105
            replace p105 := eq_true p105
            replace q105 := eq_true q105
            have hcz23_0 := blk_cell BK102.out
            have hfz23_0 := blk_frozen BK102.out
            go_wp2_with (first | (go_at_call 92; (with_reducible refine (scale_float.calls ((rd_T192 x8_1 (ji17)).f1) ((rd_T192 l0 x17_1).f1) t106 true _ A20.out).mono ?_); rintro e w' ⟨rfl, ⟨nd, rfl⟩⟩; (try first | exact ⟨rfl, _, World.drewN_drewN _ _ _⟩ | exact ⟨rfl, _, Eq.trans (World.drewN_drewN _ _ _) (congrArg (World.drewN _) (Nat.add_assoc _ _ _))⟩); clear A20; have p22 : 0 ≤ ((ji17) : Int) := of_decide_eq_true (by assumption); have q22 : ((ji17) : Int) < ((x8_1.length : Int) : Int) := of_decide_eq_true (by assumption); obtain ⟨go22, co22, eo22, gb22, gl22, cl22, HG22⟩ := Kd.R_form HO_8.out (by omega); (first | cases eo22 | (injection eo22 with ea_ en_ ec_; (first | subst ea_ | (injection ea_ with ea_; subst ea_)); subst ec_; clear en_)); have GB22 := Aside0.mk gb22; have GG22 := Aside0.mk HG22; clear gb22 gl22 HG22; (first | simp only [add_plain] at hx105_0 | skip); (first | simp only [add_plain] at hx105_1 | skip); obtain ⟨ce22, hcl22, hM22, hcc22, hfr22⟩ := Kd.R_elem HO_8.out z192 ((ji17) : Int) p22 q22; obtain rfl := k192_openM hM22; have hx22_0 : wc.cell? ⟨go22, ((ji17) : Int).toNat * 2, none⟩ = some (.int .i64 ((rd_T192 x8_1 (ji17)).f0)) := hcc22 0 _ rfl; have hx22_1 : wc.cell? ⟨go22, ((ji17) : Int).toNat * 2 + 1, none⟩ = some (.int .u64 ((rd_T192 x8_1 (ji17)).f1)) := hcc22 1 _ rfl; have hf22_0 : wc.frozen? ⟨go22, ((ji17) : Int).toNat * 2, none⟩ = false := hfr22 0; have hf22_1 : wc.frozen? ⟨go22, ((ji17) : Int).toNat * 2 + 1, none⟩ = false := hfr22 1; clear hcl22 hcc22 hfr22 hM22; replace p22 := eq_true p22; replace q22 := eq_true q22; have HX24 := Aside0.mk (show Kd.R k192 192 wc w.heap.size (fun k_ => k_ ≠ gb102) (.slice (some ⟨go22, 0, none⟩) x8_1.length co11) x8_1 from (Kd.R_u HO_8.out)); obtain ⟨ce24, hcl24, hM24, hcc24, hfr24⟩ := Kd.R_elem HX24.out z192 ((ji17) : Int) (of_decide_eq_true (by assumption)) (by have h_ : ((ji17) : Int) < ((x8_1.length : Int) : Int) := of_decide_eq_true (by assumption); first | exact h_ | (have e_ := (Kd.R_reads' HO_8.out).1; omega) | simpa using h_); obtain rfl := k192_openM hM24; have HP24 := Kd.R_seg HX24.out ((ji17) : Int) (of_decide_eq_true (by assumption)) (by have h_ : ((ji17) : Int) < ((x8_1.length : Int) : Int) := of_decide_eq_true (by assumption); first | exact h_ | (have e_ := (Kd.R_reads' HO_8.out).1; omega) | simpa using h_) (seg := [.int .u64 t106]) (j := 1) hcl24 hcc24 (show 2 ≤ 2 from by decide) (x' := (⟨(rd_T192 x8_1 (ji17)).f0, t106⟩ : S192)) (k192_mkM _ _ _ (⟨(rd_T192 x8_1 (ji17)).f0, t106⟩ : S192) ) (fun _ hk => hk); have hx24_1 := hcc24 1 _ rfl; (try simp only [show (k192).sz = 2 from rfl, Nat.mul_one, Nat.add_zero] at hx24_1); have hf24_1 := hfr24 1; (try simp only [show (k192).sz = 2 from rfl, Nat.mul_one, Nat.add_zero] at hf24_1); clear hcl24 hcc24 hfr24 hM24) | ((with_reducible refine gate_store (t := 25) (p := 59) rfl ?_); (try (rw [drewN_self wc]; generalize hq_ : World.drewN wc _ = wc; have n0_ := Aside0.mk (Kd.R_at hq_ HO_8.out); have n1_ := Aside0.mk (blk_at hq_ BK102.out); have n2_ := Aside0.mk (below_at hq_ HB.out); clear hq_ HO_8 BK102 HB; have HO_8 := n0_; have BK102 := n1_; have HB := n2_; clear n0_ n1_ n2_; (try (have HX24 := Aside0.mk (show Kd.R k192 192 wc w.heap.size (fun k_ => k_ ≠ gb102) (.slice (some ⟨go22, 0, none⟩) x8_1.length co11) x8_1 from (Kd.R_u HO_8.out)))); (try (obtain ⟨ce24, hcl24, hM24, hcc24, hfr24⟩ := Kd.R_elem HX24.out z192 ((ji17) : Int) (of_decide_eq_true (by assumption)) (by have h_ : ((ji17) : Int) < ((x8_1.length : Int) : Int) := of_decide_eq_true (by assumption); first | exact h_ | (have e_ := (Kd.R_reads' HO_8.out).1; omega) | simpa using h_))); (try (obtain rfl := k192_openM hM24)); (try (have HP24 := Kd.R_seg HX24.out ((ji17) : Int) (of_decide_eq_true (by assumption)) (by have h_ : ((ji17) : Int) < ((x8_1.length : Int) : Int) := of_decide_eq_true (by assumption); first | exact h_ | (have e_ := (Kd.R_reads' HO_8.out).1; omega) | simpa using h_) (seg := [.int .u64 t106]) (j := 1) hcl24 hcc24 (show 2 ≤ 2 from by decide) (x' := (⟨(rd_T192 x8_1 (ji17)).f0, t106⟩ : S192)) (k192_mkM _ _ _ (⟨(rd_T192 x8_1 (ji17)).f0, t106⟩ : S192) ) (fun _ hk => hk))); (try (have hx24_1 := hcc24 1 _ rfl)); (try (try simp only [show (k192).sz = 2 from rfl, Nat.mul_one, Nat.add_zero] at hx24_1)); (try (have hf24_1 := hfr24 1)); (try (try simp only [show (k192).sz = 2 from rfl, Nat.mul_one, Nat.add_zero] at hf24_1)); (try (clear hcl24 hcc24 hfr24 hM24)))); refine store_event (t := 25) (p := 59) (v := ?vo_w25) (w1 := (wc.setCell ⟨go22, ((ji17) : Int).toNat * 2 + 1, none⟩ (.int .u64 t106))) ?hg ?ho ?hn ?hr ?_; (case ho => rfl); (case hg => rfl); (case hn => rfl); (case hr => first | (go_simp; done) | (go_simp; rfl)); intro w25 hw; have hg : wc.grownBy w25 (some go22) := (by rw [hw]; exact HP24.2); have hp_ : Kd.R k192 192 w25 w.heap.size (fun k_ => k_ ≠ gb102) (.slice (some ⟨go22, 0, none⟩) x8_1.length co11) y108 := (by rw [hw, Ny108.out]; exact HP24.1); clear HP24; have n1_ := Aside0.mk (blk_grown (g := gb102) (o := .cells #[.int .i64 ((rd_T192 l0 x17_1).f0), .int .u64 ((rd_T192 l0 x17_1).f1)] 192 (0, 0)) (blk_u BK102.out) hg (Kd.R_away HO_8.out (fun _ hk => hk))); replace HO_8 := Aside0.mk (hp_); replace HB := Aside0.mk ((by rw [hw]; exact below_set (HB.out) GB22.out : Below w.heap.size w w25)); clear BK102; have BK102 := n1_; clear n1_; clear hg hw hp_))
            repeat (go_quiet (first | (go_at_call 92; (with_reducible refine (scale_float.calls ((rd_T192 x8_1 (ji17)).f1) ((rd_T192 l0 x17_1).f1) t106 true _ A20.out).mono ?_); rintro e w' ⟨rfl, ⟨nd, rfl⟩⟩; (try first | exact ⟨rfl, _, World.drewN_drewN _ _ _⟩ | exact ⟨rfl, _, Eq.trans (World.drewN_drewN _ _ _) (congrArg (World.drewN _) (Nat.add_assoc _ _ _))⟩); clear A20; have p22 : 0 ≤ ((ji17) : Int) := of_decide_eq_true (by assumption); have q22 : ((ji17) : Int) < ((x8_1.length : Int) : Int) := of_decide_eq_true (by assumption); obtain ⟨go22, co22, eo22, gb22, gl22, cl22, HG22⟩ := Kd.R_form HO_8.out (by omega); (first | cases eo22 | (injection eo22 with ea_ en_ ec_; (first | subst ea_ | (injection ea_ with ea_; subst ea_)); subst ec_; clear en_)); have GB22 := Aside0.mk gb22; have GG22 := Aside0.mk HG22; clear gb22 gl22 HG22; (first | simp only [add_plain] at hx105_0 | skip); (first | simp only [add_plain] at hx105_1 | skip); obtain ⟨ce22, hcl22, hM22, hcc22, hfr22⟩ := Kd.R_elem HO_8.out z192 ((ji17) : Int) p22 q22; obtain rfl := k192_openM hM22; have hx22_0 : wc.cell? ⟨go22, ((ji17) : Int).toNat * 2, none⟩ = some (.int .i64 ((rd_T192 x8_1 (ji17)).f0)) := hcc22 0 _ rfl; have hx22_1 : wc.cell? ⟨go22, ((ji17) : Int).toNat * 2 + 1, none⟩ = some (.int .u64 ((rd_T192 x8_1 (ji17)).f1)) := hcc22 1 _ rfl; have hf22_0 : wc.frozen? ⟨go22, ((ji17) : Int).toNat * 2, none⟩ = false := hfr22 0; have hf22_1 : wc.frozen? ⟨go22, ((ji17) : Int).toNat * 2 + 1, none⟩ = false := hfr22 1; clear hcl22 hcc22 hfr22 hM22; replace p22 := eq_true p22; replace q22 := eq_true q22; have HX24 := Aside0.mk (show Kd.R k192 192 wc w.heap.size (fun k_ => k_ ≠ gb102) (.slice (some ⟨go22, 0, none⟩) x8_1.length co11) x8_1 from (Kd.R_u HO_8.out)); obtain ⟨ce24, hcl24, hM24, hcc24, hfr24⟩ := Kd.R_elem HX24.out z192 ((ji17) : Int) (of_decide_eq_true (by assumption)) (by have h_ : ((ji17) : Int) < ((x8_1.length : Int) : Int) := of_decide_eq_true (by assumption); first | exact h_ | (have e_ := (Kd.R_reads' HO_8.out).1; omega) | simpa using h_); obtain rfl := k192_openM hM24; have HP24 := Kd.R_seg HX24.out ((ji17) : Int) (of_decide_eq_true (by assumption)) (by have h_ : ((ji17) : Int) < ((x8_1.length : Int) : Int) := of_decide_eq_true (by assumption); first | exact h_ | (have e_ := (Kd.R_reads' HO_8.out).1; omega) | simpa using h_) (seg := [.int .u64 t106]) (j := 1) hcl24 hcc24 (show 2 ≤ 2 from by decide) (x' := (⟨(rd_T192 x8_1 (ji17)).f0, t106⟩ : S192)) (k192_mkM _ _ _ (⟨(rd_T192 x8_1 (ji17)).f0, t106⟩ : S192) ) (fun _ hk => hk); have hx24_1 := hcc24 1 _ rfl; (try simp only [show (k192).sz = 2 from rfl, Nat.mul_one, Nat.add_zero] at hx24_1); have hf24_1 := hfr24 1; (try simp only [show (k192).sz = 2 from rfl, Nat.mul_one, Nat.add_zero] at hf24_1); clear hcl24 hcc24 hfr24 hM24) | ((with_reducible refine gate_store (t := 25) (p := 59) rfl ?_); (try (rw [drewN_self wc]; generalize hq_ : World.drewN wc _ = wc; have n0_ := Aside0.mk (Kd.R_at hq_ HO_8.out); have n1_ := Aside0.mk (blk_at hq_ BK102.out); have n2_ := Aside0.mk (below_at hq_ HB.out); clear hq_ HO_8 BK102 HB; have HO_8 := n0_; have BK102 := n1_; have HB := n2_; clear n0_ n1_ n2_; (try (have HX24 := Aside0.mk (show Kd.R k192 192 wc w.heap.size (fun k_ => k_ ≠ gb102) (.slice (some ⟨go22, 0, none⟩) x8_1.length co11) x8_1 from (Kd.R_u HO_8.out)))); (try (obtain ⟨ce24, hcl24, hM24, hcc24, hfr24⟩ := Kd.R_elem HX24.out z192 ((ji17) : Int) (of_decide_eq_true (by assumption)) (by have h_ : ((ji17) : Int) < ((x8_1.length : Int) : Int) := of_decide_eq_true (by assumption); first | exact h_ | (have e_ := (Kd.R_reads' HO_8.out).1; omega) | simpa using h_))); (try (obtain rfl := k192_openM hM24)); (try (have HP24 := Kd.R_seg HX24.out ((ji17) : Int) (of_decide_eq_true (by assumption)) (by have h_ : ((ji17) : Int) < ((x8_1.length : Int) : Int) := of_decide_eq_true (by assumption); first | exact h_ | (have e_ := (Kd.R_reads' HO_8.out).1; omega) | simpa using h_) (seg := [.int .u64 t106]) (j := 1) hcl24 hcc24 (show 2 ≤ 2 from by decide) (x' := (⟨(rd_T192 x8_1 (ji17)).f0, t106⟩ : S192)) (k192_mkM _ _ _ (⟨(rd_T192 x8_1 (ji17)).f0, t106⟩ : S192) ) (fun _ hk => hk))); (try (have hx24_1 := hcc24 1 _ rfl)); (try (try simp only [show (k192).sz = 2 from rfl, Nat.mul_one, Nat.add_zero] at hx24_1)); (try (have hf24_1 := hfr24 1)); (try (try simp only [show (k192).sz = 2 from rfl, Nat.mul_one, Nat.add_zero] at hf24_1)); (try (clear hcl24 hcc24 hfr24 hM24)))); refine store_event (t := 25) (p := 59) (v := ?vo_w25) (w1 := (wc.setCell ⟨go22, ((ji17) : Int).toNat * 2 + 1, none⟩ (.int .u64 t106))) ?hg ?ho ?hn ?hr ?_; (case ho => rfl); (case hg => rfl); (case hn => rfl); (case hr => first | (go_simp; done) | (go_simp; rfl)); intro w25 hw; have hg : wc.grownBy w25 (some go22) := (by rw [hw]; exact HP24.2); have hp_ : Kd.R k192 192 w25 w.heap.size (fun k_ => k_ ≠ gb102) (.slice (some ⟨go22, 0, none⟩) x8_1.length co11) y108 := (by rw [hw, Ny108.out]; exact HP24.1); clear HP24; have n1_ := Aside0.mk (blk_grown (g := gb102) (o := .cells #[.int .i64 ((rd_T192 l0 x17_1).f0), .int .u64 ((rd_T192 l0 x17_1).f1)] 192 (0, 0)) (blk_u BK102.out) hg (Kd.R_away HO_8.out (fun _ hk => hk))); replace HO_8 := Aside0.mk (hp_); replace HB := Aside0.mk ((by rw [hw]; exact below_set (HB.out) GB22.out : Below w.heap.size w w25)); clear BK102; have BK102 := n1_; clear n1_; clear hg hw hp_)); try go_wp2_with (first | (go_at_call 92; (with_reducible refine (scale_float.calls ((rd_T192 x8_1 (ji17)).f1) ((rd_T192 l0 x17_1).f1) t106 true _ A20.out).mono ?_); rintro e w' ⟨rfl, ⟨nd, rfl⟩⟩; (try first | exact ⟨rfl, _, World.drewN_drewN _ _ _⟩ | exact ⟨rfl, _, Eq.trans (World.drewN_drewN _ _ _) (congrArg (World.drewN _) (Nat.add_assoc _ _ _))⟩); clear A20; have p22 : 0 ≤ ((ji17) : Int) := of_decide_eq_true (by assumption); have q22 : ((ji17) : Int) < ((x8_1.length : Int) : Int) := of_decide_eq_true (by assumption); obtain ⟨go22, co22, eo22, gb22, gl22, cl22, HG22⟩ := Kd.R_form HO_8.out (by omega); (first | cases eo22 | (injection eo22 with ea_ en_ ec_; (first | subst ea_ | (injection ea_ with ea_; subst ea_)); subst ec_; clear en_)); have GB22 := Aside0.mk gb22; have GG22 := Aside0.mk HG22; clear gb22 gl22 HG22; (first | simp only [add_plain] at hx105_0 | skip); (first | simp only [add_plain] at hx105_1 | skip); obtain ⟨ce22, hcl22, hM22, hcc22, hfr22⟩ := Kd.R_elem HO_8.out z192 ((ji17) : Int) p22 q22; obtain rfl := k192_openM hM22; have hx22_0 : wc.cell? ⟨go22, ((ji17) : Int).toNat * 2, none⟩ = some (.int .i64 ((rd_T192 x8_1 (ji17)).f0)) := hcc22 0 _ rfl; have hx22_1 : wc.cell? ⟨go22, ((ji17) : Int).toNat * 2 + 1, none⟩ = some (.int .u64 ((rd_T192 x8_1 (ji17)).f1)) := hcc22 1 _ rfl; have hf22_0 : wc.frozen? ⟨go22, ((ji17) : Int).toNat * 2, none⟩ = false := hfr22 0; have hf22_1 : wc.frozen? ⟨go22, ((ji17) : Int).toNat * 2 + 1, none⟩ = false := hfr22 1; clear hcl22 hcc22 hfr22 hM22; replace p22 := eq_true p22; replace q22 := eq_true q22; have HX24 := Aside0.mk (show Kd.R k192 192 wc w.heap.size (fun k_ => k_ ≠ gb102) (.slice (some ⟨go22, 0, none⟩) x8_1.length co11) x8_1 from (Kd.R_u HO_8.out)); obtain ⟨ce24, hcl24, hM24, hcc24, hfr24⟩ := Kd.R_elem HX24.out z192 ((ji17) : Int) (of_decide_eq_true (by assumption)) (by have h_ : ((ji17) : Int) < ((x8_1.length : Int) : Int) := of_decide_eq_true (by assumption); first | exact h_ | (have e_ := (Kd.R_reads' HO_8.out).1; omega) | simpa using h_); obtain rfl := k192_openM hM24; have HP24 := Kd.R_seg HX24.out ((ji17) : Int) (of_decide_eq_true (by assumption)) (by have h_ : ((ji17) : Int) < ((x8_1.length : Int) : Int) := of_decide_eq_true (by assumption); first | exact h_ | (have e_ := (Kd.R_reads' HO_8.out).1; omega) | simpa using h_) (seg := [.int .u64 t106]) (j := 1) hcl24 hcc24 (show 2 ≤ 2 from by decide) (x' := (⟨(rd_T192 x8_1 (ji17)).f0, t106⟩ : S192)) (k192_mkM _ _ _ (⟨(rd_T192 x8_1 (ji17)).f0, t106⟩ : S192) ) (fun _ hk => hk); have hx24_1 := hcc24 1 _ rfl; (try simp only [show (k192).sz = 2 from rfl, Nat.mul_one, Nat.add_zero] at hx24_1); have hf24_1 := hfr24 1; (try simp only [show (k192).sz = 2 from rfl, Nat.mul_one, Nat.add_zero] at hf24_1); clear hcl24 hcc24 hfr24 hM24) | ((with_reducible refine gate_store (t := 25) (p := 59) rfl ?_); (try (rw [drewN_self wc]; generalize hq_ : World.drewN wc _ = wc; have n0_ := Aside0.mk (Kd.R_at hq_ HO_8.out); have n1_ := Aside0.mk (blk_at hq_ BK102.out); have n2_ := Aside0.mk (below_at hq_ HB.out); clear hq_ HO_8 BK102 HB; have HO_8 := n0_; have BK102 := n1_; have HB := n2_; clear n0_ n1_ n2_; (try (have HX24 := Aside0.mk (show Kd.R k192 192 wc w.heap.size (fun k_ => k_ ≠ gb102) (.slice (some ⟨go22, 0, none⟩) x8_1.length co11) x8_1 from (Kd.R_u HO_8.out)))); (try (obtain ⟨ce24, hcl24, hM24, hcc24, hfr24⟩ := Kd.R_elem HX24.out z192 ((ji17) : Int) (of_decide_eq_true (by assumption)) (by have h_ : ((ji17) : Int) < ((x8_1.length : Int) : Int) := of_decide_eq_true (by assumption); first | exact h_ | (have e_ := (Kd.R_reads' HO_8.out).1; omega) | simpa using h_))); (try (obtain rfl := k192_openM hM24)); (try (have HP24 := Kd.R_seg HX24.out ((ji17) : Int) (of_decide_eq_true (by assumption)) (by have h_ : ((ji17) : Int) < ((x8_1.length : Int) : Int) := of_decide_eq_true (by assumption); first | exact h_ | (have e_ := (Kd.R_reads' HO_8.out).1; omega) | simpa using h_) (seg := [.int .u64 t106]) (j := 1) hcl24 hcc24 (show 2 ≤ 2 from by decide) (x' := (⟨(rd_T192 x8_1 (ji17)).f0, t106⟩ : S192)) (k192_mkM _ _ _ (⟨(rd_T192 x8_1 (ji17)).f0, t106⟩ : S192) ) (fun _ hk => hk))); (try (have hx24_1 := hcc24 1 _ rfl)); (try (try simp only [show (k192).sz = 2 from rfl, Nat.mul_one, Nat.add_zero] at hx24_1)); (try (have hf24_1 := hfr24 1)); (try (try simp only [show (k192).sz = 2 from rfl, Nat.mul_one, Nat.add_zero] at hf24_1)); (try (clear hcl24 hcc24 hfr24 hM24)))); refine store_event (t := 25) (p := 59) (v := ?vo_w25) (w1 := (wc.setCell ⟨go22, ((ji17) : Int).toNat * 2 + 1, none⟩ (.int .u64 t106))) ?hg ?ho ?hn ?hr ?_; (case ho => rfl); (case hg => rfl); (case hn => rfl); (case hr => first | (go_simp; done) | (go_simp; rfl)); intro w25 hw; have hg : wc.grownBy w25 (some go22) := (by rw [hw]; exact HP24.2); have hp_ : Kd.R k192 192 w25 w.heap.size (fun k_ => k_ ≠ gb102) (.slice (some ⟨go22, 0, none⟩) x8_1.length co11) y108 := (by rw [hw, Ny108.out]; exact HP24.1); clear HP24; have n1_ := Aside0.mk (blk_grown (g := gb102) (o := .cells #[.int .i64 ((rd_T192 l0 x17_1).f0), .int .u64 ((rd_T192 l0 x17_1).f1)] 192 (0, 0)) (blk_u BK102.out) hg (Kd.R_away HO_8.out (fun _ hk => hk))); replace HO_8 := Aside0.mk (hp_); replace HB := Aside0.mk ((by rw [hw]; exact below_set (HB.out) GB22.out : Below w.heap.size w w25)); clear BK102; have BK102 := n1_; clear n1_; clear hg hw hp_)))
            go_roundg kj7
            case measure => have := HK1.out; have := HJ7.out; omega
            case rel => exact ⟨(y108), (wrap64 (x17_1 + 1)), (by first | rfl | (simp; done) | (simp [*]; done)), H', ⟨by have := HK1.out; have := HJ7.out; omega⟩, ⟨by (repeat with_reducible refine Kd.R_q ?_); exact Kd.R_mono HO_8.out (fun _ hk => trivial)⟩, ⟨by repeat (first | (with_reducible first | exact HB.out | apply below_alloc | apply pw_below_drewN | apply below_drew1 | refine below_set ?_ GE102.out) | exact HB.out)⟩⟩
           replace c21 := Bool.eq_false_iff.mpr c21
           subst c21
           have H1 : (some (([] : List (S192)), false)) = some (r1, r2) := by rw [if_neg (show ¬ (false = true) by decide)] at H; exact H
           clear H
           have H := H1
           clear H1
           simp only [Option.some.injEq, Prod.mk.injEq] at H
           obtain ⟨rfl, rfl⟩ := H
           have p105 : 0 ≤ ((ji17) : Int) := of_decide_eq_true (by assumption)
           have q105 : (ji17) < (x8_1.length : Int) := of_decide_eq_true (by assumption)
           obtain ⟨ad105, e105, hx105_0, hx105_1⟩ := at_T192 (Kd.R_reads' HO_8.out).2.2 (ji17) p105 q105
           cases e105
           replace p105 := eq_true p105
           replace q105 := eq_true q105
           have hcz26_0 := blk_cell BK102.out
           have hfz26_0 := blk_frozen BK102.out
           go_wp2_with (first | (go_at_call 92; (with_reducible refine (scale_float.calls ((rd_T192 x8_1 (ji17)).f1) ((rd_T192 l0 x17_1).f1) t106 false _ A20.out).mono ?_); rintro e w' ⟨rfl, ⟨nd, rfl⟩⟩; (try first | exact ⟨rfl, _, World.drewN_drewN _ _ _⟩ | exact ⟨rfl, _, Eq.trans (World.drewN_drewN _ _ _) (congrArg (World.drewN _) (Nat.add_assoc _ _ _))⟩); clear A20))
           repeat (go_quiet (first | (go_at_call 92; (with_reducible refine (scale_float.calls ((rd_T192 x8_1 (ji17)).f1) ((rd_T192 l0 x17_1).f1) t106 false _ A20.out).mono ?_); rintro e w' ⟨rfl, ⟨nd, rfl⟩⟩; (try first | exact ⟨rfl, _, World.drewN_drewN _ _ _⟩ | exact ⟨rfl, _, Eq.trans (World.drewN_drewN _ _ _) (congrArg (World.drewN _) (Nat.add_assoc _ _ _))⟩); clear A20)); try go_wp2_with (first | (go_at_call 92; (with_reducible refine (scale_float.calls ((rd_T192 x8_1 (ji17)).f1) ((rd_T192 l0 x17_1).f1) t106 false _ A20.out).mono ?_); rintro e w' ⟨rfl, ⟨nd, rfl⟩⟩; (try first | exact ⟨rfl, _, World.drewN_drewN _ _ _⟩ | exact ⟨rfl, _, Eq.trans (World.drewN_drewN _ _ _) (congrArg (World.drewN _) (Nat.add_assoc _ _ _))⟩); clear A20)))
           go_ret2
           exact ⟨_, by first | rfl | (simp [errW_none, errW_some] <;> rfl) | (simp only [← hji17]; first | rfl | (simp [errW_none, errW_some] <;> rfl)) | (simp [*, errW_none, errW_some] <;> rfl), by first | exact Kd.R_nil _ _ _ _ _ | exact Kd.N_nil _ _ _ _ _ | exact Kd.V_nil _ _ _ _ _ | exact Kd.Q_nil _ _ _ _ _ | exact Kd.S_nil _ _ _ _ _, by repeat (first | (with_reducible first | exact HB.out | apply below_alloc | apply pw_below_drewN | apply below_drew1 | refine below_set ?_ GE102.out) | exact HB.out)⟩
          rw [if_neg c19] at H
          exact absurd H (by simp)
         rw [if_neg c18] at H
         exact absurd H (by simp)
        replace c16 := Bool.eq_false_iff.mpr c16
        subst c16
        have H1 : (if x8_1.length < 8796093022208 then (scale_widen_uint64.l0 kj7 a1 (x8_1 ++ [(⟨t103, ((rd_T192 l0 x17_1).f1)⟩ : S192)]) l0 (l0.length : Int) (wrap64 (x17_1 + 1))) else (none)) = some (r1, r2) := by rw [if_neg (show ¬ (false = true) by decide)] at H; exact H
        clear H
        have H := H1
        clear H1
        by_cases c27 : x8_1.length < 8796093022208
        ·rw [if_pos c27] at H
         have LMc27 := Aside0.mk c27
         clear c27
         obtain ⟨y109, hy109⟩ : ∃ y_ : List (S192), y_ = (x8_1 ++ [(⟨t103, ((rd_T192 l0 x17_1).f1)⟩ : S192)]) := ⟨_, rfl⟩
         replace H : (scale_widen_uint64.l0 kj7 a1 y109 l0 (l0.length : Int) (wrap64 (x17_1 + 1))) = some (r1, r2) := by first | (rw [hy109]; with_reducible exact H) | (have H2_ := (Option.bind_some _ _).symm.trans H; rw [hy109]; with_reducible exact H2_) | (have H2_ := (Option.bind_some _ _).symm.trans H; with_reducible exact H2_) | with_reducible exact H | (rw [hy109]; exact H) | exact H
         have Ny109 := Aside0.mk hy109
         clear hy109
         have H' := Aside0.mk H
         clear H
         have hcz28_0 := blk_cell BK102.out
         have hfz28_0 := blk_frozen BK102.out
         go_wp2_with (first | ((with_reducible refine gate_builtin (b := .append) (xs := #[.tmp 60, .tmp 65]) rfl ?_); at_builtin; refine Kd.R_append k192 (w0 := w) w.heap.size rfl (.tmp 60) (.tmp 65) 129 192 (.agg #[(.int .i64 0), (.int .u64 0)]) 16 rfl Try.underlying129 info192 rfl (by decide) (by omega) (.slice Ao11 x8_1.length co11) x8_1 (⟨t103, ((rd_T192 l0 x17_1).f1)⟩ : S192) [.int .i64 t103, .int .u64 ((rd_T192 l0 x17_1).f1)] (fun k_ => k_ ≠ gb102) (fun _ => False) rfl rfl ?aP (fun _ hk => hk.elim) ?aF ?aO ?aB ?aS ?aL ?_; (case aP => exact k192_mkM _ _ _ (⟨t103, ((rd_T192 l0 x17_1).f1)⟩ : S192)); (case aB => exact (by repeat (first | (with_reducible first | exact HB.out | refine below_q ?_ | refine below_set ?_ GE102.out) | exact HB.out))); (case aF => exact (fun k_ hk => Kd.freshB (g := gb102) (o := .cells #[.int .i64 ((rd_T192 l0 x17_1).f0), .int .u64 ((rd_T192 l0 x17_1).f1)] 192 (0, 0)) (blk_u BK102.out) k_ hk)); (case aO => exact (Kd.R_u HO_8.out)); (case aS => exact (below_size (by repeat (first | (with_reducible first | exact HB.out | refine below_q ?_ | refine below_set ?_ GE102.out) | exact HB.out)))); (case aL => have := LMc27.out; omega); intro v110 w29 ho hb hg hat; rw [← Ny109.out] at ho; have n0_ := Aside0.mk (blk_grown (g := gb102) (o := .cells #[.int .i64 ((rd_T192 l0 x17_1).f0), .int .u64 ((rd_T192 l0 x17_1).f1)] 192 (0, 0)) (blk_u BK102.out) hg (Kd.R_away HO_8.out (fun _ hk => hk))); have HO111 := Aside0.mk (ho); replace HB := Aside0.mk (hb); clear HO_8; clear BK102; have BK102 := n0_; clear n0_; clear ho hb hg hat))
         repeat (go_quiet (first | ((with_reducible refine gate_builtin (b := .append) (xs := #[.tmp 60, .tmp 65]) rfl ?_); at_builtin; refine Kd.R_append k192 (w0 := w) w.heap.size rfl (.tmp 60) (.tmp 65) 129 192 (.agg #[(.int .i64 0), (.int .u64 0)]) 16 rfl Try.underlying129 info192 rfl (by decide) (by omega) (.slice Ao11 x8_1.length co11) x8_1 (⟨t103, ((rd_T192 l0 x17_1).f1)⟩ : S192) [.int .i64 t103, .int .u64 ((rd_T192 l0 x17_1).f1)] (fun k_ => k_ ≠ gb102) (fun _ => False) rfl rfl ?aP (fun _ hk => hk.elim) ?aF ?aO ?aB ?aS ?aL ?_; (case aP => exact k192_mkM _ _ _ (⟨t103, ((rd_T192 l0 x17_1).f1)⟩ : S192)); (case aB => exact (by repeat (first | (with_reducible first | exact HB.out | refine below_q ?_ | refine below_set ?_ GE102.out) | exact HB.out))); (case aF => exact (fun k_ hk => Kd.freshB (g := gb102) (o := .cells #[.int .i64 ((rd_T192 l0 x17_1).f0), .int .u64 ((rd_T192 l0 x17_1).f1)] 192 (0, 0)) (blk_u BK102.out) k_ hk)); (case aO => exact (Kd.R_u HO_8.out)); (case aS => exact (below_size (by repeat (first | (with_reducible first | exact HB.out | refine below_q ?_ | refine below_set ?_ GE102.out) | exact HB.out)))); (case aL => have := LMc27.out; omega); intro v110 w29 ho hb hg hat; rw [← Ny109.out] at ho; have n0_ := Aside0.mk (blk_grown (g := gb102) (o := .cells #[.int .i64 ((rd_T192 l0 x17_1).f0), .int .u64 ((rd_T192 l0 x17_1).f1)] 192 (0, 0)) (blk_u BK102.out) hg (Kd.R_away HO_8.out (fun _ hk => hk))); have HO111 := Aside0.mk (ho); replace HB := Aside0.mk (hb); clear HO_8; clear BK102; have BK102 := n0_; clear n0_; clear ho hb hg hat)); try go_wp2_with (first | ((with_reducible refine gate_builtin (b := .append) (xs := #[.tmp 60, .tmp 65]) rfl ?_); at_builtin; refine Kd.R_append k192 (w0 := w) w.heap.size rfl (.tmp 60) (.tmp 65) 129 192 (.agg #[(.int .i64 0), (.int .u64 0)]) 16 rfl Try.underlying129 info192 rfl (by decide) (by omega) (.slice Ao11 x8_1.length co11) x8_1 (⟨t103, ((rd_T192 l0 x17_1).f1)⟩ : S192) [.int .i64 t103, .int .u64 ((rd_T192 l0 x17_1).f1)] (fun k_ => k_ ≠ gb102) (fun _ => False) rfl rfl ?aP (fun _ hk => hk.elim) ?aF ?aO ?aB ?aS ?aL ?_; (case aP => exact k192_mkM _ _ _ (⟨t103, ((rd_T192 l0 x17_1).f1)⟩ : S192)); (case aB => exact (by repeat (first | (with_reducible first | exact HB.out | refine below_q ?_ | refine below_set ?_ GE102.out) | exact HB.out))); (case aF => exact (fun k_ hk => Kd.freshB (g := gb102) (o := .cells #[.int .i64 ((rd_T192 l0 x17_1).f0), .int .u64 ((rd_T192 l0 x17_1).f1)] 192 (0, 0)) (blk_u BK102.out) k_ hk)); (case aO => exact (Kd.R_u HO_8.out)); (case aS => exact (below_size (by repeat (first | (with_reducible first | exact HB.out | refine below_q ?_ | refine below_set ?_ GE102.out) | exact HB.out)))); (case aL => have := LMc27.out; omega); intro v110 w29 ho hb hg hat; rw [← Ny109.out] at ho; have n0_ := Aside0.mk (blk_grown (g := gb102) (o := .cells #[.int .i64 ((rd_T192 l0 x17_1).f0), .int .u64 ((rd_T192 l0 x17_1).f1)] 192 (0, 0)) (blk_u BK102.out) hg (Kd.R_away HO_8.out (fun _ hk => hk))); have HO111 := Aside0.mk (ho); replace HB := Aside0.mk (hb); clear HO_8; clear BK102; have BK102 := n0_; clear n0_; clear ho hb hg hat)))
         go_roundg kj7
         case measure => have := HK1.out; have := HJ7.out; omega
         case rel => exact ⟨(y109), (wrap64 (x17_1 + 1)), (by first | rfl | (simp; done) | (simp [*]; done)), H', ⟨by have := HK1.out; have := HJ7.out; omega⟩, ⟨by (repeat with_reducible refine Kd.R_q ?_); exact Kd.R_mono HO111.out (fun _ hk => trivial)⟩, ⟨by repeat (first | (with_reducible first | exact HB.out | apply below_alloc | apply pw_below_drewN | apply below_drew1 | refine below_set ?_ GE102.out) | exact HB.out)⟩⟩
        rw [if_neg c27] at H
        exact absurd H (by simp)
     rw [if_neg c6] at H
     exact absurd H (by simp)
    rw [if_neg c5] at H
    exact absurd H (by simp)
   rw [if_neg c4] at H
   have c4b0 : decide (x17_1 < (l0.length : Int)) = false := decide_eq_false c4
   clear c4
   simp only [Option.some.injEq, Prod.mk.injEq] at H
   obtain ⟨rfl, rfl⟩ := H
   go_wp2
   repeat (go_quiet (fail); try go_wp2)
   go_ret2
   exact ⟨_, by first | rfl | (simp [errW_none, errW_some] <;> rfl) | (simp [*, errW_none, errW_some] <;> rfl), by (repeat with_reducible refine Kd.R_q ?_); exact HO_8.out, by repeat (first | (with_reducible first | exact HB.out | apply below_alloc | apply pw_below_drewN | apply below_drew1) | exact HB.out)⟩
end Go.Proofs.Ytooiccpmngmapaa.P
namespace Go.Proofs.Ytooiccpmngmapaa.P
open Go.RowKit Go.Shelf Go.Proofs.YtooiccpmngmapaaW.PrintWords Go.Proofs.YtooiccpmngmapaaW.PrintLast Go.Proofs.YtooiccpmngmapaaW.PrintMore
def addN (a b : Int) : Nat := (fadd a b).getD 0
theorem read_right {a : Int} (h0 : 0 ≤ a) (h : rightF a = true) : ∃ m e, FloatKind.f64.format.read a.toNat = .number false m e := by
  unfold rightF at h
  rw [decide_eq_true_eq] at h
  have hs : FloatKind.f64.format.signWeight = 9223372036854775808 := by kernel_rfl
  have hi : FloatKind.f64.format.infRung = 9218868437227405312 := by kernel_rfl
  unfold Ieee.Format.read
  rw [hs, hi]
  have h1 : a.toNat / 9223372036854775808 = 0 := Nat.div_eq_of_lt (by omega)
  have h2 : a.toNat % 9223372036854775808 = a.toNat := Nat.mod_eq_of_lt (by omega)
  simp only [h1, h2]
  split
  · exact ⟨_, _, rfl⟩
  · rw [if_pos (by omega)]; exact ⟨_, _, rfl⟩
theorem fadd_right {a b : Int} (ha : 0 ≤ a) (ra : rightF a = true) (hb : 0 ≤ b) (rb : rightF b = true) : fadd a b = some (addN a b) := by
  obtain ⟨m, e, h1⟩ := read_right ha ra
  obtain ⟨n, g, h2⟩ := read_right hb rb
  unfold addN fadd Ieee.Format.add
  rw [h1, h2]
  rfl
theorem scale_float_f {a b : Int} (ha : 0 ≤ a) (ra : rightF a = true) (hb : 0 ≤ b) (rb : rightF b = true) : scale_float.f a b = some ((addN a b : Int), rightF (addN a b)) := by
  unfold scale_float.f
  rw [fadd_right ha ra hb rb]
  rfl
def widenGoF (s : Int) : Pu → List Pu → Option (List Pu)
  | cur, [] => some [cur]
  | cur, p :: t => if placeR p.f0 s = cur.f0 then (if rightF (addN cur.f1 p.f1) = true then widenGoF s ⟨cur.f0, addN cur.f1 p.f1⟩ t else none) else (widenGoF s ⟨placeR p.f0 s, p.f1⟩ t).map (cur :: ·)
def widenWF (s : Int) : List Pu → Option (List Pu)
  | [] => some []
  | p :: t => widenGoF s ⟨placeR p.f0 s, p.f1⟩ t
def widenRF (s : Int) (l : List Pu) : List Pu × Bool := match widenWF s l with | some r => (r, true) | none => ([], false)
def nnRowF (l : List Pu) : Prop := ∀ p ∈ l, i64 p.f0 ∧ 0 ≤ p.f1 ∧ rightF p.f1 = true
theorem widenF_loop (s : Int) (l : List Pu) (hl : l.length < 4398046511104) (hn : nnRowF l) : ∀ (d k i : Nat) (done : List Pu) (cur : Pu), l.length - i = d → 2 * d + 2 < k → i ≤ l.length → done.length < i → 0 ≤ cur.f1 → rightF cur.f1 = true →
    scale_widen_uint64.l0 k s (done ++ [cur]) l (l.length : Int) (i : Int) = some (match widenGoF s cur (l.drop i) with | some r => (done ++ r, true) | none => ([], false)) := by
  intro d
  induction d with
  | zero =>
    intro k i done cur hd hk hi hdl h0 h1
    obtain ⟨k, rfl⟩ : ∃ m, k = m + 1 := ⟨k - 1, by omega⟩
    simp only [scale_widen_uint64.l0]
    rw [if_neg (by omega), List.drop_eq_nil_of_le (by omega)]
    rfl
  | succ d ih =>
    intro k i done cur hd hk hi hdl h0 h1
    obtain ⟨k, rfl⟩ : ∃ m, k = m + 1 + 1 + 1 := ⟨k - 3, by omega⟩
    have hlt : i < l.length := by omega
    obtain ⟨p0, p1, p2⟩ := hn l[i] (List.getElem_mem hlt)
    have hlast : rd_T192 (done ++ [cur]) (wrap64 (((done ++ [cur]).length : Nat) - 1 : Int)) = cur := by
      rw [wrap_id (by simp <;> omega) (by simp <;> omega), show (((done ++ [cur]).length : Nat) - 1 : Int) = ((done.length : Nat) : Int) by simp, rdPu_at (by simp)]
      simp
    have hw : wrap64 (((done ++ [cur]).length : Nat) - 1 : Int) = (done.length : Int) := by rw [wrap_id (by simp <;> omega) (by simp <;> omega)]; simp
    have hlen : (((done ++ [cur]).length : Nat) : Int) = (done.length : Int) + 1 := by simp
    rw [scale_widen_uint64.l0]
    rw [if_pos (by omega), if_pos (by omega), if_pos (by omega), rdPu_at hlt, scale_Place_f _ _ _ p0]
    simp only [Option.bind_some]
    rw [if_pos (by rw [hlen]; omega), hlast, hw, if_pos (by omega), if_pos (by rw [hlen]; omega)]
    rw [List.drop_eq_getElem_cons hlt]
    generalize l[i] = p at *
    simp only [scale_widen_uint64.j1, widenGoF]
    by_cases he : placeR p.f0 s = cur.f0
    · rw [if_pos (by simp [he]), if_pos he, hw, if_pos (by omega), if_pos (by rw [hlen]; omega)]
      rw [show rd_T192 (done ++ [cur]) (done.length : Int) = cur from by rw [rdPu_at (by simp)]; simp]
      have hsf := scale_float_f h0 h1 p1 p2
      generalize addN cur.f1 p.f1 = m at *
      rw [hsf]
      generalize hR : rightF (m : Int) = R
      rw [Option.bind_some]
      cases R with
      | true =>
        rw [if_pos rfl, if_pos rfl, wrap_succ (by omega)]
        have hset : (done ++ [cur]).set ((done.length : Int)).toNat ⟨cur.f0, (m : Int)⟩ = done ++ [⟨cur.f0, (m : Int)⟩] := by rw [Int.toNat_natCast]; simp
        have hi := ih (k + 1) (i + 1) done ⟨cur.f0, (m : Int)⟩ (by omega) (by omega) (by omega) (by omega) (Int.natCast_nonneg _) hR
        rw [← hset] at hi
        exact hi
      | false => rw [if_neg (by simp), if_neg (by simp)]
    · rw [if_neg (by simp; intro h; exact he h.symm), if_neg he, if_pos (by simp <;> omega), wrap_succ (by omega)]
      rw [ih (k + 1) (i + 1) (done ++ [cur]) ⟨placeR p.f0 s, p.f1⟩ (by omega) (by omega) (by omega) (by simp <;> omega) p1 p2]
      cases widenGoF s ⟨placeR p.f0 s, p.f1⟩ (l.drop (i + 1)) with
      | none => rfl
      | some r => simp
theorem widenF_f (s : Int) (l : List Pu) (hl : l.length < 4398046511104) (hn : nnRowF l) (k : Nat) (hk : 2 * l.length + 4 < k) : scale_widen_uint64.f k l s = some (widenRF s l) := by
  unfold scale_widen_uint64.f widenRF
  obtain ⟨k, rfl⟩ : ∃ m, k = m + 1 + 1 + 1 := ⟨k - 3, by omega⟩
  cases l with
  | nil => simp only [scale_widen_uint64.l0]; rfl
  | cons p t =>
    rw [scale_widen_uint64.l0, if_pos (by simp <;> omega), if_pos (by omega), if_pos (by simp <;> omega)]
    obtain ⟨p0, p1, p2⟩ := hn p (by simp)
    have hr : rd_T192 (p :: t) 0 = p := rfl
    rw [hr, scale_Place_f _ _ _ p0]
    simp only [Option.bind_some]
    rw [if_neg (by simp)]
    simp only [scale_widen_uint64.j1]
    rw [if_neg (by simp), if_pos (by simp), show wrap64 (0 + 1) = ((1 : Nat) : Int) from by unfold wrap64; omega]
    have := widenF_loop s (p :: t) hl hn t.length (k + 1) 1 [] ⟨placeR p.f0 s, p.f1⟩ (by simp) (by simp at hk; omega) (by simp) (by simp) p1 p2
    rw [List.nil_append] at this ⊢
    rw [this]
    rfl
theorem widenGoF_spec (s : Int) : ∀ (l : List Pu) (cur : Pu) (r : List Pu), widenGoF s cur l = some r → (∀ p ∈ l, u64 p.f1 ∧ rightF p.f1 = true) → u64 cur.f1 → rightF cur.f1 = true →
    r.length ≤ l.length + 1 ∧ (∀ p ∈ r, u64 p.f1 ∧ rightF p.f1 = true) ∧ (∀ p ∈ r, p.f0 = cur.f0 ∨ ∃ q ∈ l, p.f0 = placeR q.f0 s) := by
  intro l
  induction l with
  | nil =>
    intro cur r h hn h0 h1
    cases h
    refine ⟨by simp, fun p hp => ?_, fun p hp => ?_⟩
    · obtain rfl : p = cur := by simpa using hp
      exact ⟨h0, h1⟩
    · obtain rfl : p = cur := by simpa using hp
      exact .inl rfl
  | cons p t ih =>
    intro cur r h hn h0 h1
    have hp := hn p (by simp)
    have hn' : ∀ q ∈ t, u64 q.f1 ∧ rightF q.f1 = true := fun q hq => hn q (List.mem_cons_of_mem _ hq)
    simp only [widenGoF] at h
    split at h
    · split at h
      · rename_i ho
        have hu : u64 (addN cur.f1 p.f1 : Int) := by
          have := ho
          unfold rightF at this
          rw [decide_eq_true_eq] at this
          unfold u64
          omega
        obtain ⟨a, c, d⟩ := ih _ _ h hn' hu ho
        refine ⟨by simp; omega, c, fun q hq => ?_⟩
        rcases d q hq with d | ⟨q', hq', d⟩
        · exact .inl d
        · exact .inr ⟨q', List.mem_cons_of_mem _ hq', d⟩
      · cases h
    · cases hr : widenGoF s ⟨placeR p.f0 s, p.f1⟩ t with
      | none => rw [hr] at h; cases h
      | some r' =>
        rw [hr] at h
        cases h
        obtain ⟨a, c, d⟩ := ih _ _ hr hn' hp.1 hp.2
        refine ⟨by simp; omega, fun q hq => ?_, fun q hq => ?_⟩
        · rcases List.mem_cons.1 hq with rfl | hq
          · exact ⟨h0, h1⟩
          · exact c q hq
        · rcases List.mem_cons.1 hq with rfl | hq
          · exact .inl rfl
          · rcases d q hq with d | ⟨q', hq', d⟩
            · exact .inr ⟨p, by simp, d⟩
            · exact .inr ⟨q', List.mem_cons_of_mem _ hq', d⟩
theorem widenRF_ok (s : Int) {l : List Pu} (h : RowOKU l) : wfRowU (widenRF s l).1 ∧ (widenRF s l).1.length ≤ 4096 := by
  unfold widenRF
  cases hr : widenWF s l with
  | none => exact ⟨RowOKU.nil.wf, by simp⟩
  | some r =>
    have hc : ∀ q ∈ l, u64 q.f1 ∧ rightF q.f1 = true := fun q hq => ⟨(h.wf.1 q hq).2, h.cnt q hq⟩
    cases l with
    | nil => cases hr; exact ⟨RowOKU.nil.wf, by simp⟩
    | cons p t =>
      have hp := hc p (by simp)
      obtain ⟨a, c, d⟩ := widenGoF_spec s t _ r hr (fun q hq => hc q (List.mem_cons_of_mem _ hq)) hp.1 hp.2
      have hl := h.len
      have hl2 : r.length ≤ 4096 := by simp at hl; omega
      refine ⟨⟨fun q hq => ⟨?_, (c q hq).1⟩, by simp only; omega⟩, hl2⟩
      rcases d q hq with d | ⟨q', hq', d⟩
      · rw [d]; exact placeR_i64 (h.wf.1 p (by simp)).1
      · rw [d]; exact placeR_i64 (h.wf.1 q' (List.mem_cons_of_mem _ hq')).1
theorem nnF_row {l : List Pu} (h : RowOKU l) : nnRowF l := fun p hp => ⟨(h.wf.1 p hp).1, by have := (h.wf.1 p hp).2; unfold u64 at this; omega, h.cnt p hp⟩
def lowF (h : Fh) (tt : Int) : Fh := ⟨tt, h.f1, h.f2, h.f3, h.f4, h.f5, h.f6, h.f7, h.f8⟩
def scaleFR (h : Fh) (tt : Int) : Fh × Int :=
  if checkF h ≠ 0 then (emptyF, checkF h) else if tt < -4 ∨ tt > h.f0 then (emptyF, 21)
  else match widenWF (h.f0 - tt) (openF h).1, widenWF (h.f0 - tt) (openF h).2.1 with
    | some p, some n => makeF (lowF h tt) (some0U p) (some0U n)
    | _, _ => (emptyF, 28)
theorem checkF_schema {h : Fh} (hc : checkF h = 0) : -4 ≤ h.f0 ∧ h.f0 ≤ 8 := by
  unfold checkF openF at hc
  split at hc
  · cases hc
  · omega
end Go.Proofs.Ytooiccpmngmapaa.P
namespace Go.Proofs.Ytooiccpmngmapaa.P
open Go.RowKit Go.Shelf Go.Proofs.YtooiccpmngmapaaW.PrintWords Go.Proofs.YtooiccpmngmapaaW.PrintLast Go.Proofs.YtooiccpmngmapaaW.PrintMore
theorem widenF_c (base : Nat) (s : Int) (l : List Pu) (hr : RowOKU l) (w : World) (v : Value) (hv : SI kPu w v l) (hbase : base ≤ w.heap.size) : Calls Try.prog 91 #[v, .int .i64 s, .func (.func 92) #[] #[]] w fun e w' =>
    ∃ v0, e = .returned (.tuple #[v0, .bool (widenRF s l).2]) ∧ FJ kPu base w' v0 (widenRF s l).1 ∧ Below w.heap.size w w' := by
  obtain ⟨A, c, rfl, hc, hr'⟩ := hv
  have hl := hr.wf.2
  refine (scale_widen_uint64.calls (2 * l.length + 5) A c l s (widenRF s l).1 (widenRF s l).2 w hr' hc (widenF_f s l hl (nnF_row hr) _ (by omega))).mono ?_
  rintro e w1 ⟨v0, rfl, h0, hb⟩
  exact ⟨v0, rfl, FI.of_R h0 hbase, hb⟩
set_option maxHeartbeats 16000000 in
set_option maxRecDepth 100000 in
theorem scaleF_c (h : Fh) (hw : wfF h) (tt : Int) (ht : i64 tt) (w : World) (v : Value) (hv : GI w v h) : Calls Try.prog 33 #[v, .int .i64 tt] w fun e w' =>
    ∃ v', e = .returned (.tuple #[v', .int .i64 (scaleFR h tt).2]) ∧ GF w.heap.size w' v' (scaleFR h tt).1 ∧ Below w.heap.size w w' := by
  have hu := Try.underlying55
  obtain ⟨A5, c5, A6, c6, A7, c7, A8, c8, e, s5, s6, s7, s8⟩ := hv.open_
  subst e
  have HV := Aside0.mk hv
  have p0 := fpairs_c h hw 0
  have p1 := fpairs_c h hw 1
  have rw0 := (openF_row hw).1
  have rw1 := (openF_row hw).2
  rw [show pairsF h 0 = ((openF h).1, checkF h) from by unfold pairsF; rw [if_pos rfl]; rfl] at p0
  rw [show pairsF h 1 = ((openF h).2.1, checkF h) from by unfold pairsF; rw [if_neg (by decide), if_pos rfl]; rfl] at p1
  unfold scaleFR
  generalize hce : checkF h = ce at *
  by_cases c0 : ce = 0
  rotate_left
  · rw [if_pos c0]
    have c0a : (ce != 0) = true := bne_iff_ne.2 c0
    simp only at p0
    have P0 := Aside0.mk p0
    clear c0 hce p0 p1 rw0 rw1 hv hw
    have X := Aside0.mk ((Blk.new w #[.int .i64 h.f0, .int .u64 h.f1, .int .u64 h.f2, .int .u64 h.f3, .int .u64 h.f4, .slice A5 h.f5.length c5, .slice A6 h.f6.length c6, .slice A7 h.f7.length c7, .slice A8 h.f8.length c8] 55).alloc (.cells #[.int .i64 0, .int .u64 0, .int .u64 0, .int .u64 0, .int .u64 0, .slice none 0 0, .slice none 0 0, .slice none 0 0, .slice none 0 0] 55)); have hx := fun i => X.out.cell i; have zx := fun i => blk_frozen X.out i
    have Y := Aside0.mk (Blk.at1 (w := w) (.cells #[.int .i64 h.f0, .int .u64 h.f1, .int .u64 h.f2, .int .u64 h.f3, .int .u64 h.f4, .slice A5 h.f5.length c5, .slice A6 h.f6.length c6, .slice A7 h.f7.length c7, .slice A8 h.f8.length c8] 55) #[.int .i64 0, .int .u64 0, .int .u64 0, .int .u64 0, .int .u64 0, .slice none 0 0, .slice none 0 0, .slice none 0 0, .slice none 0 0] 55); have hy := fun i => Y.out.cell i; have zy := fun i => blk_frozen Y.out i
    have B := Aside0.mk (below_alloc (below_alloc (Below.refl w.heap.size w) (.cells #[.int .i64 h.f0, .int .u64 h.f1, .int .u64 h.f2, .int .u64 h.f3, .int .u64 h.f4, .slice A5 h.f5.length c5, .slice A6 h.f6.length c6, .slice A7 h.f7.length c7, .slice A8 h.f8.length c8] 55)) (.cells #[.int .i64 0, .int .u64 0, .int .u64 0, .int .u64 0, .int .u64 0, .slice none 0 0, .slice none 0 0, .slice none 0 0, .slice none 0 0] 55))
    replace HV := Aside0.mk ((HV.out.below (below_alloc (Below.refl _ _) (.cells #[.int .i64 h.f0, .int .u64 h.f1, .int .u64 h.f2, .int .u64 h.f3, .int .u64 h.f4, .slice A5 h.f5.length c5, .slice A6 h.f6.length c6, .slice A7 h.f7.length c7, .slice A8 h.f8.length c8] 55))).below (below_alloc (Below.refl _ _) (.cells #[.int .i64 0, .int .u64 0, .int .u64 0, .int .u64 0, .int .u64 0, .slice none 0 0, .slice none 0 0, .slice none 0 0, .slice none 0 0] 55)))
    go_enter Try.func33, Try.ntmps33
    go_wp2_with (first | (go_at_call 90; (with_reducible refine (P0.out _ _ HV.out).mono ?_); rintro e W1 ⟨v0, rfl, hs, hb⟩; replace B := Aside0.mk (below_then B.out B.out.size hb); replace HV := Aside0.mk (HV.out.below hb); replace X := Aside0.mk (X.out.below hb); replace hx := fun i => X.out.cell i; replace zx := fun i => blk_frozen X.out i; replace Y := Aside0.mk (Y.out.below hb); replace hy := fun i => Y.out.cell i; replace zy := fun i => blk_frozen Y.out i; have S0 := Aside0.mk hs; clear P0; clear hs hb))
    refine bodyPost_ret (results_ct rfl _ _ (w.heap.size + 1) 55 #[.int .i64 0, .int .u64 0, .int .u64 0, .int .u64 0, .int .u64 0, .slice none 0 0, .slice none 0 0, .slice none 0 0, .slice none 0 0] (0, 0) _ rfl (nine Y.out _ _ _ _ _ _ _ _ _) Try.underlying55 rfl (by kernel_rfl)) rfl ?_
    exact ⟨_, rfl, GF.empty _ _, nine_below B.out (by omega) _ _ _ _ _ _ _ _ _⟩
  rw [if_neg (by simp [c0])]
  have hs := checkF_schema (show checkF h = 0 by rw [hce]; exact c0)
  subst c0
  have sw : scale_wrong.f h.f0 tt = some (decide (tt < -4 ∨ tt > h.f0)) := by
    unfold scale_wrong.f
    by_cases c1 : tt < -4
    · rw [if_pos c1]; simp [c1]
    · rw [if_neg c1]; simp [c1]
  have wr : ∀ w : World, Calls Try.prog 79 #[.int .i64 h.f0, .int .i64 tt] w fun e w' => e = .returned (.bool (decide (tt < -4 ∨ tt > h.f0))) ∧ Below w.heap.size w w' := fun w => (scale_wrong.calls h.f0 tt _ w sw).mono fun e w1 h => ⟨h.1, h.2.below⟩
  have P0 := Aside0.mk p0
  have P1 := Aside0.mk p1
  clear hce p0 p1 hv
  by_cases c1 : tt < -4 ∨ tt > h.f0
  · rw [if_pos c1]
    rw [decide_eq_true c1] at wr
    have WR := Aside0.mk wr
    clear c1 wr sw hs hw rw0 rw1 ht
    have X := Aside0.mk ((Blk.new w #[.int .i64 h.f0, .int .u64 h.f1, .int .u64 h.f2, .int .u64 h.f3, .int .u64 h.f4, .slice A5 h.f5.length c5, .slice A6 h.f6.length c6, .slice A7 h.f7.length c7, .slice A8 h.f8.length c8] 55).alloc (.cells #[.int .i64 0, .int .u64 0, .int .u64 0, .int .u64 0, .int .u64 0, .slice none 0 0, .slice none 0 0, .slice none 0 0, .slice none 0 0] 55)); have hx := fun i => X.out.cell i; have zx := fun i => blk_frozen X.out i
    have Y := Aside0.mk (Blk.at1 (w := w) (.cells #[.int .i64 h.f0, .int .u64 h.f1, .int .u64 h.f2, .int .u64 h.f3, .int .u64 h.f4, .slice A5 h.f5.length c5, .slice A6 h.f6.length c6, .slice A7 h.f7.length c7, .slice A8 h.f8.length c8] 55) #[.int .i64 0, .int .u64 0, .int .u64 0, .int .u64 0, .int .u64 0, .slice none 0 0, .slice none 0 0, .slice none 0 0, .slice none 0 0] 55); have hy := fun i => Y.out.cell i; have zy := fun i => blk_frozen Y.out i
    have B := Aside0.mk (below_alloc (below_alloc (Below.refl w.heap.size w) (.cells #[.int .i64 h.f0, .int .u64 h.f1, .int .u64 h.f2, .int .u64 h.f3, .int .u64 h.f4, .slice A5 h.f5.length c5, .slice A6 h.f6.length c6, .slice A7 h.f7.length c7, .slice A8 h.f8.length c8] 55)) (.cells #[.int .i64 0, .int .u64 0, .int .u64 0, .int .u64 0, .int .u64 0, .slice none 0 0, .slice none 0 0, .slice none 0 0, .slice none 0 0] 55))
    replace HV := Aside0.mk ((HV.out.below (below_alloc (Below.refl _ _) (.cells #[.int .i64 h.f0, .int .u64 h.f1, .int .u64 h.f2, .int .u64 h.f3, .int .u64 h.f4, .slice A5 h.f5.length c5, .slice A6 h.f6.length c6, .slice A7 h.f7.length c7, .slice A8 h.f8.length c8] 55))).below (below_alloc (Below.refl _ _) (.cells #[.int .i64 0, .int .u64 0, .int .u64 0, .int .u64 0, .int .u64 0, .slice none 0 0, .slice none 0 0, .slice none 0 0, .slice none 0 0] 55)))
    go_enter Try.func33, Try.ntmps33
    go_wp2_with (first | (go_at_call 90; (with_reducible refine (P0.out _ _ HV.out).mono ?_); rintro e W1 ⟨v0, rfl, hs, hb⟩; replace B := Aside0.mk (below_then B.out B.out.size hb); replace HV := Aside0.mk (HV.out.below hb); replace X := Aside0.mk (X.out.below hb); replace hx := fun i => X.out.cell i; replace zx := fun i => blk_frozen X.out i; replace Y := Aside0.mk (Y.out.below hb); replace hy := fun i => Y.out.cell i; replace zy := fun i => blk_frozen Y.out i; have S0 := Aside0.mk hs; clear P0; clear hs hb) | (go_at_call 90; (with_reducible refine (P1.out _ _ HV.out).mono ?_); rintro e W2 ⟨v1, rfl, hs, hb⟩; replace B := Aside0.mk (below_then B.out B.out.size hb); replace HV := Aside0.mk (HV.out.below hb); replace S0 := Aside0.mk (S0.out.below hb); replace X := Aside0.mk (X.out.below hb); replace hx := fun i => X.out.cell i; replace zx := fun i => blk_frozen X.out i; replace Y := Aside0.mk (Y.out.below hb); replace hy := fun i => Y.out.cell i; replace zy := fun i => blk_frozen Y.out i; have S1 := Aside0.mk hs; clear P1; clear hs hb) | (go_at_call 79; (with_reducible refine (WR.out _).mono ?_); rintro e W3 ⟨rfl, hb⟩; replace B := Aside0.mk (below_then B.out B.out.size hb); replace HV := Aside0.mk (HV.out.below hb); replace S0 := Aside0.mk (S0.out.below hb); replace S1 := Aside0.mk (S1.out.below hb); replace X := Aside0.mk (X.out.below hb); replace hx := fun i => X.out.cell i; replace zx := fun i => blk_frozen X.out i; replace Y := Aside0.mk (Y.out.below hb); replace hy := fun i => Y.out.cell i; replace zy := fun i => blk_frozen Y.out i; clear  hb))
    refine bodyPost_ret (results_ct rfl _ _ (w.heap.size + 1) 55 #[.int .i64 0, .int .u64 0, .int .u64 0, .int .u64 0, .int .u64 0, .slice none 0 0, .slice none 0 0, .slice none 0 0, .slice none 0 0] (0, 0) _ rfl (nine Y.out _ _ _ _ _ _ _ _ _) Try.underlying55 rfl (by kernel_rfl)) rfl ?_
    exact ⟨_, rfl, GF.empty _ _, nine_below B.out (by omega) _ _ _ _ _ _ _ _ _⟩
  rw [if_neg c1]
  rw [decide_eq_false c1] at wr
  have WR := Aside0.mk wr
  obtain ⟨dd, hdd⟩ : ∃ dd, dd = h.f0 - tt := ⟨_, rfl⟩
  have hd : IntKind.i64.wrap (h.f0 - tt) = dd := by rw [i64_w, hdd]; exact wrap_id (by omega) (by omega)
  rw [← hdd]
  have hwl : wfF (lowF h tt) := by
    obtain ⟨_, w⟩ := hw
    exact ⟨ht, w⟩
  have q0 := widenF_c (w.heap.size + 1 + 1) dd (openF h).1 rw0
  have q1 := widenF_c (w.heap.size + 1 + 1) dd (openF h).2.1 rw1
  have ok0 := widenRF_ok dd rw0
  have ok1 := widenRF_ok dd rw1
  clear wr sw hs hw
  cases hA : widenWF dd (openF h).1 with
  | none =>
    rw [show widenRF dd (openF h).1 = ([], false) from by unfold widenRF; rw [hA]] at q0
    generalize widenRF dd (openF h).2.1 = b1 at q1
    simp only at q0 ⊢
    have Q0 := Aside0.mk q0
    have Q1 := Aside0.mk q1
    clear q0 q1 ok0 ok1 rw0 rw1 hwl ht c1 hdd hA
    have X := Aside0.mk ((Blk.new w #[.int .i64 h.f0, .int .u64 h.f1, .int .u64 h.f2, .int .u64 h.f3, .int .u64 h.f4, .slice A5 h.f5.length c5, .slice A6 h.f6.length c6, .slice A7 h.f7.length c7, .slice A8 h.f8.length c8] 55).alloc (.cells #[.int .i64 0, .int .u64 0, .int .u64 0, .int .u64 0, .int .u64 0, .slice none 0 0, .slice none 0 0, .slice none 0 0, .slice none 0 0] 55)); have hx := fun i => X.out.cell i; have zx := fun i => blk_frozen X.out i
    have Y := Aside0.mk (Blk.at1 (w := w) (.cells #[.int .i64 h.f0, .int .u64 h.f1, .int .u64 h.f2, .int .u64 h.f3, .int .u64 h.f4, .slice A5 h.f5.length c5, .slice A6 h.f6.length c6, .slice A7 h.f7.length c7, .slice A8 h.f8.length c8] 55) #[.int .i64 0, .int .u64 0, .int .u64 0, .int .u64 0, .int .u64 0, .slice none 0 0, .slice none 0 0, .slice none 0 0, .slice none 0 0] 55); have hy := fun i => Y.out.cell i; have zy := fun i => blk_frozen Y.out i
    have B := Aside0.mk (below_alloc (below_alloc (Below.refl w.heap.size w) (.cells #[.int .i64 h.f0, .int .u64 h.f1, .int .u64 h.f2, .int .u64 h.f3, .int .u64 h.f4, .slice A5 h.f5.length c5, .slice A6 h.f6.length c6, .slice A7 h.f7.length c7, .slice A8 h.f8.length c8] 55)) (.cells #[.int .i64 0, .int .u64 0, .int .u64 0, .int .u64 0, .int .u64 0, .slice none 0 0, .slice none 0 0, .slice none 0 0, .slice none 0 0] 55))
    replace HV := Aside0.mk ((HV.out.below (below_alloc (Below.refl _ _) (.cells #[.int .i64 h.f0, .int .u64 h.f1, .int .u64 h.f2, .int .u64 h.f3, .int .u64 h.f4, .slice A5 h.f5.length c5, .slice A6 h.f6.length c6, .slice A7 h.f7.length c7, .slice A8 h.f8.length c8] 55))).below (below_alloc (Below.refl _ _) (.cells #[.int .i64 0, .int .u64 0, .int .u64 0, .int .u64 0, .int .u64 0, .slice none 0 0, .slice none 0 0, .slice none 0 0, .slice none 0 0] 55)))
    go_enter Try.func33, Try.ntmps33
    go_wp2_with (first | (go_at_call 90; (with_reducible refine (P0.out _ _ HV.out).mono ?_); rintro e W1 ⟨v0, rfl, hs, hb⟩; replace B := Aside0.mk (below_then B.out B.out.size hb); replace HV := Aside0.mk (HV.out.below hb); replace X := Aside0.mk (X.out.below hb); replace hx := fun i => X.out.cell i; replace zx := fun i => blk_frozen X.out i; replace Y := Aside0.mk (Y.out.below hb); replace hy := fun i => Y.out.cell i; replace zy := fun i => blk_frozen Y.out i; have S0 := Aside0.mk hs; clear P0; clear hs hb) | (go_at_call 90; (with_reducible refine (P1.out _ _ HV.out).mono ?_); rintro e W2 ⟨v1, rfl, hs, hb⟩; replace B := Aside0.mk (below_then B.out B.out.size hb); replace HV := Aside0.mk (HV.out.below hb); replace S0 := Aside0.mk (S0.out.below hb); replace X := Aside0.mk (X.out.below hb); replace hx := fun i => X.out.cell i; replace zx := fun i => blk_frozen X.out i; replace Y := Aside0.mk (Y.out.below hb); replace hy := fun i => Y.out.cell i; replace zy := fun i => blk_frozen Y.out i; have S1 := Aside0.mk hs; clear P1; clear hs hb) | (go_at_call 79; (with_reducible refine (WR.out _).mono ?_); rintro e W3 ⟨rfl, hb⟩; replace B := Aside0.mk (below_then B.out B.out.size hb); replace HV := Aside0.mk (HV.out.below hb); replace S0 := Aside0.mk (S0.out.below hb); replace S1 := Aside0.mk (S1.out.below hb); replace X := Aside0.mk (X.out.below hb); replace hx := fun i => X.out.cell i; replace zx := fun i => blk_frozen X.out i; replace Y := Aside0.mk (Y.out.below hb); replace hy := fun i => Y.out.cell i; replace zy := fun i => blk_frozen Y.out i; clear  hb) | (go_at_call 91; (with_reducible refine (Q0.out _ _ S0.out Y.out.lt1).mono ?_); rintro e W4 ⟨u0, rfl, hs, hb⟩; replace B := Aside0.mk (below_then B.out B.out.size hb); replace HV := Aside0.mk (HV.out.below hb); replace S0 := Aside0.mk (S0.out.below hb); replace S1 := Aside0.mk (S1.out.below hb); replace X := Aside0.mk (X.out.below hb); replace hx := fun i => X.out.cell i; replace zx := fun i => blk_frozen X.out i; replace Y := Aside0.mk (Y.out.below hb); replace hy := fun i => Y.out.cell i; replace zy := fun i => blk_frozen Y.out i; have U0 := Aside0.mk hs; clear Q0; clear hs hb) | (go_at_call 91; (with_reducible refine (Q1.out _ _ S1.out Y.out.lt1).mono ?_); rintro e W5 ⟨u1, rfl, hs, hb⟩; replace B := Aside0.mk (below_then B.out B.out.size hb); replace HV := Aside0.mk (HV.out.below hb); replace S0 := Aside0.mk (S0.out.below hb); replace S1 := Aside0.mk (S1.out.below hb); replace U0 := Aside0.mk (U0.out.below hb); replace X := Aside0.mk (X.out.below hb); replace hx := fun i => X.out.cell i; replace zx := fun i => blk_frozen X.out i; replace Y := Aside0.mk (Y.out.below hb); replace hy := fun i => Y.out.cell i; replace zy := fun i => blk_frozen Y.out i; have U1 := Aside0.mk hs; clear Q1; clear hs hb))
    refine bodyPost_ret (results_ct rfl _ _ (w.heap.size + 1) 55 #[.int .i64 0, .int .u64 0, .int .u64 0, .int .u64 0, .int .u64 0, .slice none 0 0, .slice none 0 0, .slice none 0 0, .slice none 0 0] (0, 0) _ rfl (nine Y.out _ _ _ _ _ _ _ _ _) Try.underlying55 rfl (by kernel_rfl)) rfl ?_
    exact ⟨_, rfl, GF.empty _ _, nine_below B.out (by omega) _ _ _ _ _ _ _ _ _⟩
  | some p =>
  rw [show widenRF dd (openF h).1 = (p, true) from by unfold widenRF; rw [hA]] at q0 ok0
  cases hB : widenWF dd (openF h).2.1 with
  | none =>
    rw [show widenRF dd (openF h).2.1 = ([], false) from by unfold widenRF; rw [hB]] at q1
    simp only at q0 q1 ⊢
    have Q0 := Aside0.mk q0
    have Q1 := Aside0.mk q1
    clear q0 q1 ok0 ok1 rw0 rw1 hwl ht c1 hdd hA hB
    have X := Aside0.mk ((Blk.new w #[.int .i64 h.f0, .int .u64 h.f1, .int .u64 h.f2, .int .u64 h.f3, .int .u64 h.f4, .slice A5 h.f5.length c5, .slice A6 h.f6.length c6, .slice A7 h.f7.length c7, .slice A8 h.f8.length c8] 55).alloc (.cells #[.int .i64 0, .int .u64 0, .int .u64 0, .int .u64 0, .int .u64 0, .slice none 0 0, .slice none 0 0, .slice none 0 0, .slice none 0 0] 55)); have hx := fun i => X.out.cell i; have zx := fun i => blk_frozen X.out i
    have Y := Aside0.mk (Blk.at1 (w := w) (.cells #[.int .i64 h.f0, .int .u64 h.f1, .int .u64 h.f2, .int .u64 h.f3, .int .u64 h.f4, .slice A5 h.f5.length c5, .slice A6 h.f6.length c6, .slice A7 h.f7.length c7, .slice A8 h.f8.length c8] 55) #[.int .i64 0, .int .u64 0, .int .u64 0, .int .u64 0, .int .u64 0, .slice none 0 0, .slice none 0 0, .slice none 0 0, .slice none 0 0] 55); have hy := fun i => Y.out.cell i; have zy := fun i => blk_frozen Y.out i
    have B := Aside0.mk (below_alloc (below_alloc (Below.refl w.heap.size w) (.cells #[.int .i64 h.f0, .int .u64 h.f1, .int .u64 h.f2, .int .u64 h.f3, .int .u64 h.f4, .slice A5 h.f5.length c5, .slice A6 h.f6.length c6, .slice A7 h.f7.length c7, .slice A8 h.f8.length c8] 55)) (.cells #[.int .i64 0, .int .u64 0, .int .u64 0, .int .u64 0, .int .u64 0, .slice none 0 0, .slice none 0 0, .slice none 0 0, .slice none 0 0] 55))
    replace HV := Aside0.mk ((HV.out.below (below_alloc (Below.refl _ _) (.cells #[.int .i64 h.f0, .int .u64 h.f1, .int .u64 h.f2, .int .u64 h.f3, .int .u64 h.f4, .slice A5 h.f5.length c5, .slice A6 h.f6.length c6, .slice A7 h.f7.length c7, .slice A8 h.f8.length c8] 55))).below (below_alloc (Below.refl _ _) (.cells #[.int .i64 0, .int .u64 0, .int .u64 0, .int .u64 0, .int .u64 0, .slice none 0 0, .slice none 0 0, .slice none 0 0, .slice none 0 0] 55)))
    go_enter Try.func33, Try.ntmps33
    go_wp2_with (first | (go_at_call 90; (with_reducible refine (P0.out _ _ HV.out).mono ?_); rintro e W1 ⟨v0, rfl, hs, hb⟩; replace B := Aside0.mk (below_then B.out B.out.size hb); replace HV := Aside0.mk (HV.out.below hb); replace X := Aside0.mk (X.out.below hb); replace hx := fun i => X.out.cell i; replace zx := fun i => blk_frozen X.out i; replace Y := Aside0.mk (Y.out.below hb); replace hy := fun i => Y.out.cell i; replace zy := fun i => blk_frozen Y.out i; have S0 := Aside0.mk hs; clear P0; clear hs hb) | (go_at_call 90; (with_reducible refine (P1.out _ _ HV.out).mono ?_); rintro e W2 ⟨v1, rfl, hs, hb⟩; replace B := Aside0.mk (below_then B.out B.out.size hb); replace HV := Aside0.mk (HV.out.below hb); replace S0 := Aside0.mk (S0.out.below hb); replace X := Aside0.mk (X.out.below hb); replace hx := fun i => X.out.cell i; replace zx := fun i => blk_frozen X.out i; replace Y := Aside0.mk (Y.out.below hb); replace hy := fun i => Y.out.cell i; replace zy := fun i => blk_frozen Y.out i; have S1 := Aside0.mk hs; clear P1; clear hs hb) | (go_at_call 79; (with_reducible refine (WR.out _).mono ?_); rintro e W3 ⟨rfl, hb⟩; replace B := Aside0.mk (below_then B.out B.out.size hb); replace HV := Aside0.mk (HV.out.below hb); replace S0 := Aside0.mk (S0.out.below hb); replace S1 := Aside0.mk (S1.out.below hb); replace X := Aside0.mk (X.out.below hb); replace hx := fun i => X.out.cell i; replace zx := fun i => blk_frozen X.out i; replace Y := Aside0.mk (Y.out.below hb); replace hy := fun i => Y.out.cell i; replace zy := fun i => blk_frozen Y.out i; clear  hb) | (go_at_call 91; (with_reducible refine (Q0.out _ _ S0.out Y.out.lt1).mono ?_); rintro e W4 ⟨u0, rfl, hs, hb⟩; replace B := Aside0.mk (below_then B.out B.out.size hb); replace HV := Aside0.mk (HV.out.below hb); replace S0 := Aside0.mk (S0.out.below hb); replace S1 := Aside0.mk (S1.out.below hb); replace X := Aside0.mk (X.out.below hb); replace hx := fun i => X.out.cell i; replace zx := fun i => blk_frozen X.out i; replace Y := Aside0.mk (Y.out.below hb); replace hy := fun i => Y.out.cell i; replace zy := fun i => blk_frozen Y.out i; have U0 := Aside0.mk hs; clear Q0; clear hs hb) | (go_at_call 91; (with_reducible refine (Q1.out _ _ S1.out Y.out.lt1).mono ?_); rintro e W5 ⟨u1, rfl, hs, hb⟩; replace B := Aside0.mk (below_then B.out B.out.size hb); replace HV := Aside0.mk (HV.out.below hb); replace S0 := Aside0.mk (S0.out.below hb); replace S1 := Aside0.mk (S1.out.below hb); replace U0 := Aside0.mk (U0.out.below hb); replace X := Aside0.mk (X.out.below hb); replace hx := fun i => X.out.cell i; replace zx := fun i => blk_frozen X.out i; replace Y := Aside0.mk (Y.out.below hb); replace hy := fun i => Y.out.cell i; replace zy := fun i => blk_frozen Y.out i; have U1 := Aside0.mk hs; clear Q1; clear hs hb))
    refine bodyPost_ret (results_ct rfl _ _ (w.heap.size + 1) 55 #[.int .i64 0, .int .u64 0, .int .u64 0, .int .u64 0, .int .u64 0, .slice none 0 0, .slice none 0 0, .slice none 0 0, .slice none 0 0] (0, 0) _ rfl (nine Y.out _ _ _ _ _ _ _ _ _) Try.underlying55 rfl (by kernel_rfl)) rfl ?_
    exact ⟨_, rfl, GF.empty _ _, nine_below B.out (by omega) _ _ _ _ _ _ _ _ _⟩
  | some n =>
  rw [show widenRF dd (openF h).2.1 = (n, true) from by unfold widenRF; rw [hB]] at q1 ok1
  simp only at q0 q1 ok0 ok1 ⊢
  have h1 := withoutU_c p (by have := ok0.2; omega)
  have h2 := withoutU_c n (by have := ok1.2; omega)
  have hm := fun w v vp vn => fmake_c (lowF h tt) hwl _ _ (some0U_wf ok0.1) (some0U_wf ok1.1) w v vp vn
  generalize makeF (lowF h tt) (some0U p) (some0U n) = mr at *
  obtain ⟨mh, me⟩ := mr
  simp only at hm ⊢
  have Q0 := Aside0.mk q0
  have Q1 := Aside0.mk q1
  have H1 := Aside0.mk h1
  have H2 := Aside0.mk h2
  have HM := Aside0.mk hm
  clear q0 q1 ok0 ok1 rw0 rw1 hwl ht c1 h1 h2 hm hdd hA hB
  have X := Aside0.mk ((Blk.new w #[.int .i64 h.f0, .int .u64 h.f1, .int .u64 h.f2, .int .u64 h.f3, .int .u64 h.f4, .slice A5 h.f5.length c5, .slice A6 h.f6.length c6, .slice A7 h.f7.length c7, .slice A8 h.f8.length c8] 55).alloc (.cells #[.int .i64 0, .int .u64 0, .int .u64 0, .int .u64 0, .int .u64 0, .slice none 0 0, .slice none 0 0, .slice none 0 0, .slice none 0 0] 55)); have hx := fun i => X.out.cell i; have zx := fun i => blk_frozen X.out i
  have Y := Aside0.mk (Blk.at1 (w := w) (.cells #[.int .i64 h.f0, .int .u64 h.f1, .int .u64 h.f2, .int .u64 h.f3, .int .u64 h.f4, .slice A5 h.f5.length c5, .slice A6 h.f6.length c6, .slice A7 h.f7.length c7, .slice A8 h.f8.length c8] 55) #[.int .i64 0, .int .u64 0, .int .u64 0, .int .u64 0, .int .u64 0, .slice none 0 0, .slice none 0 0, .slice none 0 0, .slice none 0 0] 55); have hy := fun i => Y.out.cell i; have zy := fun i => blk_frozen Y.out i
  have B := Aside0.mk (below_alloc (below_alloc (Below.refl w.heap.size w) (.cells #[.int .i64 h.f0, .int .u64 h.f1, .int .u64 h.f2, .int .u64 h.f3, .int .u64 h.f4, .slice A5 h.f5.length c5, .slice A6 h.f6.length c6, .slice A7 h.f7.length c7, .slice A8 h.f8.length c8] 55)) (.cells #[.int .i64 0, .int .u64 0, .int .u64 0, .int .u64 0, .int .u64 0, .slice none 0 0, .slice none 0 0, .slice none 0 0, .slice none 0 0] 55))
  replace HV := Aside0.mk ((HV.out.below (below_alloc (Below.refl _ _) (.cells #[.int .i64 h.f0, .int .u64 h.f1, .int .u64 h.f2, .int .u64 h.f3, .int .u64 h.f4, .slice A5 h.f5.length c5, .slice A6 h.f6.length c6, .slice A7 h.f7.length c7, .slice A8 h.f8.length c8] 55))).below (below_alloc (Below.refl _ _) (.cells #[.int .i64 0, .int .u64 0, .int .u64 0, .int .u64 0, .int .u64 0, .slice none 0 0, .slice none 0 0, .slice none 0 0, .slice none 0 0] 55)))
  go_enter Try.func33, Try.ntmps33
  go_upto_region 12 with (first | (go_at_call 90; (with_reducible refine (P0.out _ _ HV.out).mono ?_); rintro e W1 ⟨v0, rfl, hs, hb⟩; replace B := Aside0.mk (below_then B.out B.out.size hb); replace HV := Aside0.mk (HV.out.below hb); replace X := Aside0.mk (X.out.below hb); replace hx := fun i => X.out.cell i; replace zx := fun i => blk_frozen X.out i; replace Y := Aside0.mk (Y.out.below hb); replace hy := fun i => Y.out.cell i; replace zy := fun i => blk_frozen Y.out i; have S0 := Aside0.mk hs; clear P0; clear hs hb) | (go_at_call 90; (with_reducible refine (P1.out _ _ HV.out).mono ?_); rintro e W2 ⟨v1, rfl, hs, hb⟩; replace B := Aside0.mk (below_then B.out B.out.size hb); replace HV := Aside0.mk (HV.out.below hb); replace S0 := Aside0.mk (S0.out.below hb); replace X := Aside0.mk (X.out.below hb); replace hx := fun i => X.out.cell i; replace zx := fun i => blk_frozen X.out i; replace Y := Aside0.mk (Y.out.below hb); replace hy := fun i => Y.out.cell i; replace zy := fun i => blk_frozen Y.out i; have S1 := Aside0.mk hs; clear P1; clear hs hb) | (go_at_call 79; (with_reducible refine (WR.out _).mono ?_); rintro e W3 ⟨rfl, hb⟩; replace B := Aside0.mk (below_then B.out B.out.size hb); replace HV := Aside0.mk (HV.out.below hb); replace S0 := Aside0.mk (S0.out.below hb); replace S1 := Aside0.mk (S1.out.below hb); replace X := Aside0.mk (X.out.below hb); replace hx := fun i => X.out.cell i; replace zx := fun i => blk_frozen X.out i; replace Y := Aside0.mk (Y.out.below hb); replace hy := fun i => Y.out.cell i; replace zy := fun i => blk_frozen Y.out i; clear  hb) | (go_at_call 91; (with_reducible refine (Q0.out _ _ S0.out Y.out.lt1).mono ?_); rintro e W4 ⟨u0, rfl, hs, hb⟩; replace B := Aside0.mk (below_then B.out B.out.size hb); replace HV := Aside0.mk (HV.out.below hb); replace S0 := Aside0.mk (S0.out.below hb); replace S1 := Aside0.mk (S1.out.below hb); replace X := Aside0.mk (X.out.below hb); replace hx := fun i => X.out.cell i; replace zx := fun i => blk_frozen X.out i; replace Y := Aside0.mk (Y.out.below hb); replace hy := fun i => Y.out.cell i; replace zy := fun i => blk_frozen Y.out i; have U0 := Aside0.mk hs; clear Q0; clear hs hb) | (go_at_call 91; (with_reducible refine (Q1.out _ _ S1.out Y.out.lt1).mono ?_); rintro e W5 ⟨u1, rfl, hs, hb⟩; replace B := Aside0.mk (below_then B.out B.out.size hb); replace HV := Aside0.mk (HV.out.below hb); replace S0 := Aside0.mk (S0.out.below hb); replace S1 := Aside0.mk (S1.out.below hb); replace U0 := Aside0.mk (U0.out.below hb); replace X := Aside0.mk (X.out.below hb); replace hx := fun i => X.out.cell i; replace zx := fun i => blk_frozen X.out i; replace Y := Aside0.mk (Y.out.below hb); replace hy := fun i => Y.out.cell i; replace zy := fun i => blk_frozen Y.out i; have U1 := Aside0.mk hs; clear Q1; clear hs hb))
  have hW2 := blk_lt Y.out
  have HX0 := blk_put X.out 0 (.int .i64 tt) rfl
  have HY0 := blk_put_ne' Y.out (show w.heap.size + 1 ≠ w.heap.size by omega) 0 (.int .i64 tt)
  have HB0 := B.out.setCell (p := ⟨w.heap.size, 0, none⟩) (Nat.le_refl _) (.int .i64 tt)
  have HO0 := And.intro ((U0.out.step (KA.set _ (by omega : w.heap.size < w.heap.size + 1 + 1) (i := 0) (.int .i64 tt))).now) ((U1.out.step (KA.set _ (by omega : w.heap.size < w.heap.size + 1 + 1) (i := 0) (.int .i64 tt))).now)
  clear hx zx hy zy X Y B HV S0 S1 U0 U1
  generalize (World.setCell _ ⟨w.heap.size, 0, none⟩ (.int .i64 tt)) = w1 at *
  have HX1 := Aside0.mk HX0
  have HY1 := Aside0.mk HY0
  have HB := Aside0.mk HB0
  have HO := Aside0.mk HO0
  have HVL := Aside0.mk (show GI w1 (.agg #[.int .i64 tt, .int .u64 h.f1, .int .u64 h.f2, .int .u64 h.f3, .int .u64 h.f4, .slice A5 h.f5.length c5, .slice A6 h.f6.length c6, .slice A7 h.f7.length c7, .slice A8 h.f8.length c8]) (lowF h tt) from GI.mk (h := lowF h tt) (s5.below HB0) (s6.below HB0) (s7.below HB0) (s8.below HB0))
  clear HX0 HY0 HB0 HO0 s5 s6 s7 s8
  have hfx := fun i => blk_cell HX1.out i; have hzx := fun i => blk_frozen HX1.out i; have hfy := fun i => blk_cell HY1.out i; have hzy := fun i => blk_frozen HY1.out i
  go_region_with (first | (go_at_call 94; (with_reducible refine (H1.out _ u0 (HO.out.1.below (below_drew (Below.refl _ _)))).mono ?_); rintro e w2 ⟨vp, rfl, hs, hb⟩; have HS2 := Aside0.mk hs; have HB2 := Aside0.mk (below_then (below_drew (Below.refl w1.heap.size w1)) (Nat.le_refl _) hb); have hX2 := fun i => blk_cell (blk_below HX1.out HB2.out) i; have hY2 := fun i => blk_cell (blk_below HY1.out HB2.out) i; have hZ2 := fun i => blk_frozen (blk_below HY1.out HB2.out) i; clear hs hb) | (go_at_call 94; (with_reducible refine (H2.out _ u1 (HO.out.2.below (below_drew (Below.refl _ _)))).mono ?_); rintro e w3 ⟨vn, rfl, hs, hb⟩; have HS3 := Aside0.mk hs; have HB3 := Aside0.mk (below_then (below_drew (Below.refl w1.heap.size w1)) (Nat.le_refl _) hb); have hX3 := fun i => blk_cell (blk_below HX1.out HB3.out) i; have hY3 := fun i => blk_cell (blk_below HY1.out HB3.out) i; have hZ3 := fun i => blk_frozen (blk_below HY1.out HB3.out) i; clear hs hb) | (go_at_call 94; (with_reducible refine (H2.out w2 u1 (HO.out.2.below HB2.out)).mono ?_); rintro e w4 ⟨vn, rfl, hs, hb⟩; have HS4 := Aside0.mk (And.intro (HS2.out.below hb) hs); have HB4 := Aside0.mk (below_then HB2.out HB2.out.size hb); have hX4 := fun i => blk_cell (blk_below HX1.out HB4.out) i; have hY4 := fun i => blk_cell (blk_below HY1.out HB4.out) i; have hZ4 := fun i => blk_frozen (blk_below HY1.out HB4.out) i; clear hs hb) | (go_at_call 94; (with_reducible refine (H1.out w3 u0 (HO.out.1.below HB3.out)).mono ?_); rintro e w4 ⟨vp, rfl, hs, hb⟩; have HS4 := Aside0.mk (And.intro hs (HS3.out.below hb)); have HB4 := Aside0.mk (below_then HB3.out HB3.out.size hb); have hX4 := fun i => blk_cell (blk_below HX1.out HB4.out) i; have hY4 := fun i => blk_cell (blk_below HY1.out HB4.out) i; have hZ4 := fun i => blk_frozen (blk_below HY1.out HB4.out) i; clear hs hb) | (go_at_call 93; (with_reducible refine (HM.out w4 _ vp vn (HVL.out.below HB4.out) HS4.out.1 HS4.out.2).mono ?_); rintro e w5 ⟨v5, rfl, hs, hb⟩; have HB5 := Aside0.mk (below_then (below_then HB.out HB.out.size HB4.out) (below_then HB.out HB.out.size HB4.out).size hb); have HI5 := Aside0.mk hs; obtain ⟨D5, g5, D6, g6, D7, g7, D8, g8, e5⟩ := hs.open_; subst e5; have hX5 := fun i => blk_cell (blk_below (blk_below HX1.out HB4.out) hb) i; have HY5 := Aside0.mk (blk_below (blk_below HY1.out HB4.out) hb); have hY5 := fun i => blk_cell HY5.out i; have hZ5 := fun i => blk_frozen HY5.out i; clear hs hb))
  all_goals (go_wp2; have hsz := blk_lt HY1.out; have hsz4 := HB4.out.size; refine bodyPost_ret (results_ct rfl _ _ (w.heap.size + 1) 55 #[.int .i64 mh.f0, .int .u64 mh.f1, .int .u64 mh.f2, .int .u64 mh.f3, .int .u64 mh.f4, .slice D5 mh.f5.length g5, .slice D6 mh.f6.length g6, .slice D7 mh.f7.length g7, .slice D8 mh.f8.length g8] (0, 0) _ rfl (nine HY5.out _ _ _ _ _ _ _ _ _) Try.underlying55 rfl (by kernel_rfl)) rfl ?_; exact ⟨_, rfl, (HI5.out.step (nine_ka (KA.refl _ _) (by omega) _ _ _ _ _ _ _ _ _)).lower (by omega), nine_below HB5.out (by omega) _ _ _ _ _ _ _ _ _⟩)
end Go.Proofs.Ytooiccpmngmapaa.P
namespace Go.Proofs.Ytooiccpmngmapaa.P
open Go.RowKit Go.Proofs.YtooiccpmngmapaaW.PrintWords Go.Proofs.YtooiccpmngmapaaW.PrintLast Go.Proofs.YtooiccpmngmapaaW.PrintMore
attribute [local go_sem] max2_int min2_int max_two min_two max_three min_three max_four min_four
def scale_many.l0 : Nat → Int → Int → Int → List (S173) → Int → Int → Option (Int)
 | 0, _, _, _, _, _, _ => none
 | k + 1, x1, x5, x6, x10, x11, x12 => if x12 < x11 then (if 0 ≤ x12 then (if x12 < (x10.length : Int) then ((scale_Place.f k ((rd_T173 x10 x12).f0) x1).bind fun t103 => (if x5 = 0 then (scale_many.l0 k x1 (wrap64 (x5 + 1)) t103 x10 x11 (wrap64 (x12 + 1))) else (if t103 = x6 then (scale_many.l0 k x1 x5 x6 x10 x11 (wrap64 (x12 + 1))) else (scale_many.l0 k x1 (wrap64 (x5 + 1)) t103 x10 x11 (wrap64 (x12 + 1)))))) else (none)) else (none)) else (some x5)
def scale_many.f (k : Nat) (l0 : List (S173)) (a1 : Int) : Option (Int) := scale_many.l0 k a1 0 0 l0 (l0.length : Int) 0
set_option maxHeartbeats 8000000 in
set_option maxRecDepth 100000 in
theorem scale_many.calls (k : Nat) (A0 : Option Addr) (c0 : Nat) (l0 : List (S173)) (a1 : Int) (r : Int) (w : World) (hr0 : Kd.C k173 w A0 l0.length l0) (hc0 : l0.length ≤ c0) (h : scale_many.f k l0 a1 = some r) :
  Calls Try.prog 100 #[.slice A0 l0.length c0, .int .i64 a1] w fun e w' => e = .returned (.int .i64 r) ∧ Below w.heap.size w w' := by
 have hu173 := Try.underlying173
 have HR0 := Aside0.mk hr0
 have HC0 := Aside0.mk hc0
 clear hr0 hc0
 have HB := Aside0.mk (Below.refl w.heap.size w)
 have H : (scale_many.l0 k a1 0 0 l0 (l0.length : Int) 0) = some r := h
 clear h
 have H' := Aside0.mk H
 clear H
 go_enter Try.func100, Try.ntmps100
 go_wp2
 go_loopg [5, 6, 12] k (fun kq v5 v6 v12 w' => ∃ (x5_1 : Int) (x6_1 : Int) (x12_1 : Int), v5 = .int .i64 x5_1 ∧ v6 = .int .i64 x6_1 ∧ v12 = .int .i64 x12_1 ∧ Aside0 (scale_many.l0 kq a1 x5_1 x6_1 l0 (l0.length : Int) x12_1 = some r) ∧ Aside0 (kq ≤ k) ∧ Aside0 (Below w.heap.size w w'))
 case atStart => exact ⟨(0), (0), (0), (by first | rfl | (simp; done) | (simp [*]; done)), (by first | rfl | (simp; done) | (simp [*]; done)), (by first | rfl | (simp; done) | (simp [*]; done)), H', ⟨Nat.le_refl _⟩, ⟨by repeat (first | (with_reducible first | exact HB.out | apply below_alloc | apply pw_below_drewN | apply below_drew1) | exact HB.out)⟩⟩
 case round =>
  clear H'
  try clear c1
  try clear p2
  obtain ⟨x5_1, x6_1, x12_1, rfl, rfl, rfl, HA, HK1, HB⟩ := hrel
  cases gk with
  | zero => exact absurd HA.out (by simp [scale_many.l0])
  | succ k1 =>
   have H := HA.out
   clear HA
   simp only [scale_many.l0] at H
   by_cases c3 : x12_1 < (l0.length : Int)
   ·rw [if_pos c3] at H
    have c3b0 : decide (x12_1 < (l0.length : Int)) = true := decide_eq_true c3
    clear c3
    by_cases c4 : 0 ≤ x12_1
    ·rw [if_pos c4] at H
     have c4b0 : decide (0 ≤ x12_1) = true := decide_eq_true c4
     clear c4
     by_cases c5 : x12_1 < (l0.length : Int)
     ·rw [if_pos c5] at H
      have c5b0 : decide (x12_1 < (l0.length : Int)) = true := decide_eq_true c5
      clear c5
      replace H := Option.bind_eq_some_iff.mp H
      obtain ⟨t103, A60, H⟩ := H
      replace H : (if x5_1 = 0 then (scale_many.l0 k1 a1 (wrap64 (x5_1 + 1)) t103 l0 (l0.length : Int) (wrap64 (x12_1 + 1))) else (if t103 = x6_1 then (scale_many.l0 k1 a1 x5_1 x6_1 l0 (l0.length : Int) (wrap64 (x12_1 + 1))) else (scale_many.l0 k1 a1 (wrap64 (x5_1 + 1)) t103 l0 (l0.length : Int) (wrap64 (x12_1 + 1))))) = some r := H
      have A6 := Aside0.mk A60
      clear A60
      by_cases c7 : x5_1 = 0
      ·rw [if_pos c7] at H
       have c7b0 : (x5_1 == 0) = true := beq_iff_eq.mpr c7
       have c7b1 : (x5_1 != 0) = false := bne_eq_false_iff_eq.mpr c7
       clear c7
       have H' := Aside0.mk H
       clear H
       have p101 : 0 ≤ (x12_1 : Int) := of_decide_eq_true (by assumption)
       have q101 : x12_1 < (l0.length : Int) := of_decide_eq_true (by assumption)
       obtain ⟨ad101, e101, hx101_0, hx101_1⟩ := at_T173 HR0.out x12_1 p101 q101
       cases e101
       replace hx101_0 := (HB.out.cell (World.block_lt_of_cell? w _ hx101_0)).trans hx101_0
       replace hx101_1 := (HB.out.cell (World.block_lt_of_cell? w _ hx101_1)).trans hx101_1
       replace p101 := eq_true p101
       replace q101 := eq_true q101
       go_wp2_with (first | ((with_reducible refine gate_dst (N := 8) rfl ?_); refine box_event ?hg (N := 8) ?hd (cs := #[.int .i64 0, .int .i64 0]) (t := 173) ?hr ?_; (case hd => rfl); (case hg => rfl); (case hr => first | (go_simp; done) | (go_simp; rfl)); intro gb102 hg w8 hbox hb; have BK102 := Aside0.mk (hbox); have GW102 := Aside0.mk ((by rw [hg]; exact (below_size (below_u HB.out)) : w.heap.size ≤ gb102)); have GE102 := Aside0.mk ((by rw [hg]; exact (below_size (below_u HB.out)) : w.heap.size ≤ gb102)); replace HB := Aside0.mk (below_step (below_u HB.out) hb); clear hb hbox hg; have hcz9_0 := blk_cell BK102.out; have hfz9_0 := blk_frozen BK102.out) | ((with_reducible refine gate_callee (f := 77) rfl ?_); refine goesL_ (some 19) rfl rfl Try.func77 (by kernel_rfl) rfl #[.int .i64 ((rd_T173 l0 x12_1).f0), .int .i64 a1] rfl (by (try simp only [List.map_toArray, List.map_cons, List.map_nil]); first | done | rfl | (simp only [List.length_drop, List.length_take]; rfl)) ?_; (with_reducible refine (scale_Place.calls k1 ((rd_T173 l0 x12_1).f0) a1 t103 _ A6.out).mono ?_); rintro e w' ⟨rfl, ⟨nd, rfl⟩⟩; refine ⟨_, rfl, ?_⟩; clear A6))
       go_roundg k1
       case measure => have := HK1.out; omega
       case rel => exact ⟨(wrap64 (x5_1 + 1)), (t103), (wrap64 (x12_1 + 1)), (by first | rfl | (simp; done) | (simp [*]; done)), (by first | rfl | (simp; done) | (simp [*]; done)), (by first | rfl | (simp; done) | (simp [*]; done)), H', ⟨by have := HK1.out; omega⟩, ⟨by repeat (first | (with_reducible first | exact HB.out | apply below_alloc | apply pw_below_drewN | apply below_drew1 | refine below_set ?_ GE102.out) | exact HB.out)⟩⟩
      rw [if_neg c7] at H
      have c7b0 : (x5_1 == 0) = false := beq_eq_false_iff_ne.mpr c7
      have c7b1 : (x5_1 != 0) = true := bne_iff_ne.mpr c7
      by_cases c10 : t103 = x6_1
      ·rw [if_pos c10] at H
       have c10b0 : (t103 == x6_1) = true := beq_iff_eq.mpr c10
       have c10b1 : (t103 != x6_1) = false := bne_eq_false_iff_eq.mpr c10
       clear c10
       have H' := Aside0.mk H
       clear H
       have p101 : 0 ≤ (x12_1 : Int) := of_decide_eq_true (by assumption)
       have q101 : x12_1 < (l0.length : Int) := of_decide_eq_true (by assumption)
       obtain ⟨ad101, e101, hx101_0, hx101_1⟩ := at_T173 HR0.out x12_1 p101 q101
       cases e101
       replace hx101_0 := (HB.out.cell (World.block_lt_of_cell? w _ hx101_0)).trans hx101_0
       replace hx101_1 := (HB.out.cell (World.block_lt_of_cell? w _ hx101_1)).trans hx101_1
       replace p101 := eq_true p101
       replace q101 := eq_true q101
       go_wp2_with (first | ((with_reducible refine gate_dst (N := 8) rfl ?_); refine box_event ?hg (N := 8) ?hd (cs := #[.int .i64 0, .int .i64 0]) (t := 173) ?hr ?_; (case hd => rfl); (case hg => rfl); (case hr => first | (go_simp; done) | (go_simp; rfl)); intro gb102 hg w11 hbox hb; have BK102 := Aside0.mk (hbox); have GW102 := Aside0.mk ((by rw [hg]; exact (below_size (below_u HB.out)) : w.heap.size ≤ gb102)); have GE102 := Aside0.mk ((by rw [hg]; exact (below_size (below_u HB.out)) : w.heap.size ≤ gb102)); replace HB := Aside0.mk (below_step (below_u HB.out) hb); clear hb hbox hg; have hcz12_0 := blk_cell BK102.out; have hfz12_0 := blk_frozen BK102.out) | ((with_reducible refine gate_callee (f := 77) rfl ?_); refine goesL_ (some 19) rfl rfl Try.func77 (by kernel_rfl) rfl #[.int .i64 ((rd_T173 l0 x12_1).f0), .int .i64 a1] rfl (by (try simp only [List.map_toArray, List.map_cons, List.map_nil]); first | done | rfl | (simp only [List.length_drop, List.length_take]; rfl)) ?_; (with_reducible refine (scale_Place.calls k1 ((rd_T173 l0 x12_1).f0) a1 t103 _ A6.out).mono ?_); rintro e w' ⟨rfl, ⟨nd, rfl⟩⟩; refine ⟨_, rfl, ?_⟩; clear A6))
       go_roundg k1
       case measure => have := HK1.out; omega
       case rel => exact ⟨(x5_1), (x6_1), (wrap64 (x12_1 + 1)), (by first | rfl | (simp; done) | (simp [*]; done)), (by first | rfl | (simp; done) | (simp [*]; done)), (by first | rfl | (simp; done) | (simp [*]; done)), H', ⟨by have := HK1.out; omega⟩, ⟨by repeat (first | (with_reducible first | exact HB.out | apply below_alloc | apply pw_below_drewN | apply below_drew1 | refine below_set ?_ GE102.out) | exact HB.out)⟩⟩
      rw [if_neg c10] at H
      have c10b0 : (t103 == x6_1) = false := beq_eq_false_iff_ne.mpr c10
      have c10b1 : (t103 != x6_1) = true := bne_iff_ne.mpr c10
      have H' := Aside0.mk H
      clear H
      have p101 : 0 ≤ (x12_1 : Int) := of_decide_eq_true (by assumption)
      have q101 : x12_1 < (l0.length : Int) := of_decide_eq_true (by assumption)
      obtain ⟨ad101, e101, hx101_0, hx101_1⟩ := at_T173 HR0.out x12_1 p101 q101
      cases e101
      replace hx101_0 := (HB.out.cell (World.block_lt_of_cell? w _ hx101_0)).trans hx101_0
      replace hx101_1 := (HB.out.cell (World.block_lt_of_cell? w _ hx101_1)).trans hx101_1
      replace p101 := eq_true p101
      replace q101 := eq_true q101
      go_wp2_with (first | ((with_reducible refine gate_dst (N := 8) rfl ?_); refine box_event ?hg (N := 8) ?hd (cs := #[.int .i64 0, .int .i64 0]) (t := 173) ?hr ?_; (case hd => rfl); (case hg => rfl); (case hr => first | (go_simp; done) | (go_simp; rfl)); intro gb102 hg w13 hbox hb; have BK102 := Aside0.mk (hbox); have GW102 := Aside0.mk ((by rw [hg]; exact (below_size (below_u HB.out)) : w.heap.size ≤ gb102)); have GE102 := Aside0.mk ((by rw [hg]; exact (below_size (below_u HB.out)) : w.heap.size ≤ gb102)); replace HB := Aside0.mk (below_step (below_u HB.out) hb); clear hb hbox hg; have hcz14_0 := blk_cell BK102.out; have hfz14_0 := blk_frozen BK102.out) | ((with_reducible refine gate_callee (f := 77) rfl ?_); refine goesL_ (some 19) rfl rfl Try.func77 (by kernel_rfl) rfl #[.int .i64 ((rd_T173 l0 x12_1).f0), .int .i64 a1] rfl (by (try simp only [List.map_toArray, List.map_cons, List.map_nil]); first | done | rfl | (simp only [List.length_drop, List.length_take]; rfl)) ?_; (with_reducible refine (scale_Place.calls k1 ((rd_T173 l0 x12_1).f0) a1 t103 _ A6.out).mono ?_); rintro e w' ⟨rfl, ⟨nd, rfl⟩⟩; refine ⟨_, rfl, ?_⟩; clear A6))
      go_roundg k1
      case measure => have := HK1.out; omega
      case rel => exact ⟨(wrap64 (x5_1 + 1)), (t103), (wrap64 (x12_1 + 1)), (by first | rfl | (simp; done) | (simp [*]; done)), (by first | rfl | (simp; done) | (simp [*]; done)), (by first | rfl | (simp; done) | (simp [*]; done)), H', ⟨by have := HK1.out; omega⟩, ⟨by repeat (first | (with_reducible first | exact HB.out | apply below_alloc | apply pw_below_drewN | apply below_drew1 | refine below_set ?_ GE102.out) | exact HB.out)⟩⟩
     rw [if_neg c5] at H
     exact absurd H (by simp)
    rw [if_neg c4] at H
    exact absurd H (by simp)
   rw [if_neg c3] at H
   have c3b0 : decide (x12_1 < (l0.length : Int)) = false := decide_eq_false c3
   clear c3
   obtain rfl := Option.some.inj H
   go_wp2
   go_ret
   exact ⟨by first | rfl | (simp [errW_none, errW_some] <;> rfl) | (simp [*, errW_none, errW_some] <;> rfl), by repeat (first | (with_reducible first | exact HB.out | apply below_alloc | apply pw_below_drewN | apply below_drew1) | exact HB.out)⟩
end Go.Proofs.Ytooiccpmngmapaa.P
namespace Go.Proofs.Ytooiccpmngmapaa.P
open Go.RowKit Go.Proofs.YtooiccpmngmapaaW.PrintWords Go.Proofs.YtooiccpmngmapaaW.PrintLast Go.Proofs.YtooiccpmngmapaaW.PrintMore
attribute [local go_sem] max2_int min2_int max_two min_two max_three min_three max_four min_four
def scale_Fit.l0 : Nat → Int → List (S173) → List (S173) → Int → Int → Int → Int → Int → Int → List (S113) → List (S113) → List Int → List Int → Option (Int × Int)
 | 0, _, _, _, _, _, _, _, _, _, _, _, _, _ => none
 | k + 1, x1, x6, x8, x10, x102000, x102001, x102002, x102003, x102004, x102005, x102006, x102007, x102008 => if x10 ≥ (-4) then ((scale_many.f k x6 (wrap64 (x102000 - x10))).bind fun t116 => ((scale_many.f k x8 (wrap64 (x102000 - x10))).bind fun t117 => (if (wrap64 (t116 + t117)) ≤ x1 then (some (x10, 0)) else (scale_Fit.l0 k x1 x6 x8 (wrap64 (x10 - 1)) x102000 x102001 x102002 x102003 x102004 x102005 x102006 x102007 x102008)))) else (some (0, 12))
def scale_Fit.f (k : Nat) (a0_0 : Int) (a0_1 : Int) (a0_2 : Int) (a0_3 : Int) (a0_4 : Int) (l0_5 : List (S113)) (l0_6 : List (S113)) (l0_7 : List Int) (l0_8 : List Int) (a1 : Int) : Option (Int × Int) := (hist_Pairs.f k a0_0 a0_1 a0_2 a0_3 a0_4 l0_5 l0_6 l0_7 l0_8 0).bind fun bt102 => (if bt102.2 = 0 then (if a1 < 0 then (some (0, 11)) else ((hist_Pairs.f k a0_0 a0_1 a0_2 a0_3 a0_4 l0_5 l0_6 l0_7 l0_8 1).bind fun bt106 => ((pairs_Without_int64.f bt102.1 0).bind fun t110 => ((pairs_Without_int64.f bt106.1 0).bind fun t113 => (scale_Fit.l0 k a1 t110 t113 a0_0 a0_0 a0_1 a0_2 a0_3 a0_4 l0_5 l0_6 l0_7 l0_8))))) else (some (0, bt102.2)))
def scale_Fit.T11 : Bool × List (List Nat × List Nat) := (true, [([], []), ([], []), ([1], [1]), ([], []), ([2, 3], [2, 3]), ([0, 4], [0, 4]), ([], []), ([], []), ([7], [7]), ([], []), ([8, 9], [8, 9]), ([6, 10, 5], [6, 10]), ([5, 11], [5, 11]), ([], []), ([12, 13], [12, 13])])
def scale_Fit.B11 : List Nat := [0, 0, 2, 0, 14, 31, 0, 0, 128, 0, 896, 2047, 4095, 0, 16383]
theorem scale_Fit.tab11 : rtab .any (opsOf Try.f38 11) = scale_Fit.T11 := by kernel_rfl
theorem scale_Fit.bits11 : waitsOk scale_Fit.T11.2 scale_Fit.B11 = true := by kernel_rfl
set_option maxHeartbeats 8000000 in
set_option maxRecDepth 100000 in
theorem scale_Fit.calls (k : Nat) (a0_0 : Int) (a0_1 : Int) (a0_2 : Int) (a0_3 : Int) (a0_4 : Int) (A0_5 : Option Addr) (c0_5 : Nat) (l0_5 : List (S113)) (A0_6 : Option Addr) (c0_6 : Nat) (l0_6 : List (S113)) (A0_7 : Option Addr) (c0_7 : Nat) (l0_7 : List Int) (A0_8 : Option Addr) (c0_8 : Nat) (l0_8 : List Int) (a1 : Int) (r1 : Int) (r2 : Int) (w : World) (hr0_5 : Kd.C k113 w A0_5 l0_5.length l0_5) (hc0_5 : l0_5.length ≤ c0_5) (hr0_6 : Kd.C k113 w A0_6 l0_6.length l0_6) (hc0_6 : l0_6.length ≤ c0_6) (hr0_7 : Kd.C (Kd.int .i64) w A0_7 l0_7.length l0_7) (hc0_7 : l0_7.length ≤ c0_7) (hr0_8 : Kd.C (Kd.int .i64) w A0_8 l0_8.length l0_8) (hc0_8 : l0_8.length ≤ c0_8) (h : scale_Fit.f k a0_0 a0_1 a0_2 a0_3 a0_4 l0_5 l0_6 l0_7 l0_8 a1 = some (r1, r2)) :
  Calls Try.prog 38 #[.agg #[.int .i64 a0_0, .int .u64 a0_1, .int .u64 a0_2, .int .u64 a0_3, .int .u64 a0_4, .slice A0_5 l0_5.length c0_5, .slice A0_6 l0_6.length c0_6, .slice A0_7 l0_7.length c0_7, .slice A0_8 l0_8.length c0_8], .int .i64 a1] w fun e w' => e = .returned (.tuple #[.int .i64 r1, .int .i64 r2]) ∧ Below w.heap.size w w' := by
 have hu29 := Try.underlying29
 have HR0_5 := Aside0.mk hr0_5
 have HC0_5 := Aside0.mk hc0_5
 clear hr0_5 hc0_5
 have HR0_6 := Aside0.mk hr0_6
 have HC0_6 := Aside0.mk hc0_6
 clear hr0_6 hc0_6
 have HR0_7 := Aside0.mk hr0_7
 have HC0_7 := Aside0.mk hc0_7
 clear hr0_7 hc0_7
 have HR0_8 := Aside0.mk hr0_8
 have HC0_8 := Aside0.mk hc0_8
 clear hr0_8 hc0_8
 have HB := Aside0.mk (Below.refl w.heap.size w)
 have H : ((hist_Pairs.f k a0_0 a0_1 a0_2 a0_3 a0_4 l0_5 l0_6 l0_7 l0_8 0).bind fun bt102 => (if bt102.2 = 0 then (if a1 < 0 then (some (0, 11)) else ((hist_Pairs.f k a0_0 a0_1 a0_2 a0_3 a0_4 l0_5 l0_6 l0_7 l0_8 1).bind fun bt106 => ((pairs_Without_int64.f bt102.1 0).bind fun t110 => ((pairs_Without_int64.f bt106.1 0).bind fun t113 => (scale_Fit.l0 k a1 t110 t113 a0_0 a0_0 a0_1 a0_2 a0_3 a0_4 l0_5 l0_6 l0_7 l0_8))))) else (some (0, bt102.2)))) = some (r1, r2) := h
 clear h
 replace H := Option.bind_eq_some_iff.mp H
 obtain ⟨⟨t102, t105⟩, A30, H⟩ := H
 replace H : (if t105 = 0 then (if a1 < 0 then (some (0, 11)) else ((hist_Pairs.f k a0_0 a0_1 a0_2 a0_3 a0_4 l0_5 l0_6 l0_7 l0_8 1).bind fun bt106 => ((pairs_Without_int64.f t102 0).bind fun t110 => ((pairs_Without_int64.f bt106.1 0).bind fun t113 => (scale_Fit.l0 k a1 t110 t113 a0_0 a0_0 a0_1 a0_2 a0_3 a0_4 l0_5 l0_6 l0_7 l0_8))))) else (some (0, t105))) = some (r1, r2) := H
 have A3 := Aside0.mk A30
 clear A30
 by_cases c4 : t105 = 0
 ·rw [if_pos c4] at H
  have c4b0 : (t105 == 0) = true := beq_iff_eq.mpr c4
  have c4b1 : (t105 != 0) = false := bne_eq_false_iff_eq.mpr c4
  clear c4
  by_cases c5 : a1 < 0
  ·rw [if_pos c5] at H
   have c5b0 : decide (a1 < 0) = true := decide_eq_true c5
   clear c5
   simp only [Option.some.injEq, Prod.mk.injEq] at H
   obtain ⟨rfl, rfl⟩ := H
   go_enter Try.func38, Try.ntmps38
   go_wp2_with (first | ((with_reducible refine gate_dst (N := 2) rfl ?_); refine box_event ?hg (N := 2) ?hd (cs := #[.int .i64 a0_0, .int .u64 a0_1, .int .u64 a0_2, .int .u64 a0_3, .int .u64 a0_4, .slice A0_5 l0_5.length c0_5, .slice A0_6 l0_6.length c0_6, .slice A0_7 l0_7.length c0_7, .slice A0_8 l0_8.length c0_8]) (t := 29) ?hr ?_; (case hd => rfl); (case hg => rfl); (case hr => first | (go_simp; done) | (go_simp; rfl)); intro gb101 hg w6 hbox hb; have BK101 := Aside0.mk (hbox); have GW101 := Aside0.mk ((by rw [hg]; exact (below_size (below_u HB.out)) : w.heap.size ≤ gb101)); have GE101 := Aside0.mk ((by rw [hg]; exact (below_size (below_u HB.out)) : w.heap.size ≤ gb101)); replace HB := Aside0.mk (below_step (below_u HB.out) hb); clear hb hbox hg; have hcz7_0 := blk_cell BK101.out; have hfz7_0 := blk_frozen BK101.out) | ((with_reducible refine gate_callee (f := 78) rfl ?_); refine goesL_ (some 13) rfl rfl Try.func78 (by kernel_rfl) rfl #[.agg #[.int .i64 a0_0, .int .u64 a0_1, .int .u64 a0_2, .int .u64 a0_3, .int .u64 a0_4, .slice A0_5 l0_5.length c0_5, .slice A0_6 l0_6.length c0_6, .slice A0_7 l0_7.length c0_7, .slice A0_8 l0_8.length c0_8], .int .i64 0] rfl (by (try simp only [List.map_toArray, List.map_cons, List.map_nil]); first | done | rfl | (simp only [List.length_drop, List.length_take]; rfl)) ?_; (with_reducible refine (hist_Pairs.calls k a0_0 a0_1 a0_2 a0_3 a0_4 _ _ l0_5 _ _ l0_6 _ _ l0_7 _ _ l0_8 0 t102 t105 _ ?side1 ?side2 ?side3 ?side4 ?side5 ?side6 ?side7 ?side8 A3.out).mono ?_); (case side1 => exact Kd.C_u (Kd.C_below HR0_5.out HB.out)); (case side2 => exact HC0_5.out); (case side3 => exact Kd.C_u (Kd.C_below HR0_6.out HB.out)); (case side4 => exact HC0_6.out); (case side5 => exact Kd.C_u (Kd.C_below HR0_7.out HB.out)); (case side6 => exact HC0_7.out); (case side7 => exact Kd.C_u (Kd.C_below HR0_8.out HB.out)); (case side8 => exact HC0_8.out); rintro e w8 ⟨v103, rfl, ho0, hb⟩; refine ⟨_, rfl, ?_⟩; have HO104 := Aside0.mk (Kd.R_lower ho0 (below_size (by repeat (first | (with_reducible first | exact HB.out | refine below_q ?_ | refine below_set ?_ GE101.out) | exact HB.out)))); replace BK101 := Aside0.mk (blk_ub BK101.out hb); replace HB := Aside0.mk (below_step (by repeat (first | (with_reducible first | exact HB.out | refine below_q ?_ | refine below_set ?_ GE101.out) | exact HB.out)) hb); (try clear hb); (try clear hb2); (try clear hk); (try clear hi); (try clear ho0); clear A3))
   go_ret2
   exact ⟨by first | rfl | (simp [errW_none, errW_some] <;> rfl) | (simp [*, errW_none, errW_some] <;> rfl), by repeat (first | (with_reducible first | exact HB.out | apply below_alloc | apply pw_below_drewN | apply below_drew1 | refine below_set ?_ GE101.out) | exact HB.out)⟩
  rw [if_neg c5] at H
  have c5b0 : decide (a1 < 0) = false := decide_eq_false c5
  clear c5
  replace H := Option.bind_eq_some_iff.mp H
  obtain ⟨⟨t106, t109⟩, A90, H⟩ := H
  replace H : ((pairs_Without_int64.f t102 0).bind fun t110 => ((pairs_Without_int64.f t106 0).bind fun t113 => (scale_Fit.l0 k a1 t110 t113 a0_0 a0_0 a0_1 a0_2 a0_3 a0_4 l0_5 l0_6 l0_7 l0_8))) = some (r1, r2) := H
  have A9 := Aside0.mk A90
  clear A90
  replace H := Option.bind_eq_some_iff.mp H
  obtain ⟨t110, A100, H⟩ := H
  replace H : ((pairs_Without_int64.f t106 0).bind fun t113 => (scale_Fit.l0 k a1 t110 t113 a0_0 a0_0 a0_1 a0_2 a0_3 a0_4 l0_5 l0_6 l0_7 l0_8)) = some (r1, r2) := H
  have A10 := Aside0.mk A100
  clear A100
  replace H := Option.bind_eq_some_iff.mp H
  obtain ⟨t113, A110, H⟩ := H
  replace H : (scale_Fit.l0 k a1 t110 t113 a0_0 a0_0 a0_1 a0_2 a0_3 a0_4 l0_5 l0_6 l0_7 l0_8) = some (r1, r2) := H
  have A11 := Aside0.mk A110
  clear A110
  have H' := Aside0.mk H
  clear H
  go_enter Try.func38, Try.ntmps38
  go_wp2_with (first | ((with_reducible refine gate_dst (N := 2) rfl ?_); refine box_event ?hg (N := 2) ?hd (cs := #[.int .i64 a0_0, .int .u64 a0_1, .int .u64 a0_2, .int .u64 a0_3, .int .u64 a0_4, .slice A0_5 l0_5.length c0_5, .slice A0_6 l0_6.length c0_6, .slice A0_7 l0_7.length c0_7, .slice A0_8 l0_8.length c0_8]) (t := 29) ?hr ?_; (case hd => rfl); (case hg => rfl); (case hr => first | (go_simp; done) | (go_simp; rfl)); intro gb101 hg w12 hbox hb; have BK101 := Aside0.mk (hbox); have GW101 := Aside0.mk ((by rw [hg]; exact (below_size (below_u HB.out)) : w.heap.size ≤ gb101)); have GE101 := Aside0.mk ((by rw [hg]; exact (below_size (below_u HB.out)) : w.heap.size ≤ gb101)); replace HB := Aside0.mk (below_step (below_u HB.out) hb); clear hb hbox hg; have hcz13_0 := blk_cell BK101.out; have hfz13_0 := blk_frozen BK101.out) | ((with_reducible refine gate_callee (f := 78) rfl ?_); refine goesL_ (some 13) rfl rfl Try.func78 (by kernel_rfl) rfl #[.agg #[.int .i64 a0_0, .int .u64 a0_1, .int .u64 a0_2, .int .u64 a0_3, .int .u64 a0_4, .slice A0_5 l0_5.length c0_5, .slice A0_6 l0_6.length c0_6, .slice A0_7 l0_7.length c0_7, .slice A0_8 l0_8.length c0_8], .int .i64 0] rfl (by (try simp only [List.map_toArray, List.map_cons, List.map_nil]); first | done | rfl | (simp only [List.length_drop, List.length_take]; rfl)) ?_; (with_reducible refine (hist_Pairs.calls k a0_0 a0_1 a0_2 a0_3 a0_4 _ _ l0_5 _ _ l0_6 _ _ l0_7 _ _ l0_8 0 t102 t105 _ ?side1 ?side2 ?side3 ?side4 ?side5 ?side6 ?side7 ?side8 A3.out).mono ?_); (case side1 => exact Kd.C_u (Kd.C_below HR0_5.out HB.out)); (case side2 => exact HC0_5.out); (case side3 => exact Kd.C_u (Kd.C_below HR0_6.out HB.out)); (case side4 => exact HC0_6.out); (case side5 => exact Kd.C_u (Kd.C_below HR0_7.out HB.out)); (case side6 => exact HC0_7.out); (case side7 => exact Kd.C_u (Kd.C_below HR0_8.out HB.out)); (case side8 => exact HC0_8.out); rintro e w14 ⟨v103, rfl, ho0, hb⟩; refine ⟨_, rfl, ?_⟩; have HO104 := Aside0.mk (Kd.R_lower ho0 (below_size (by repeat (first | (with_reducible first | exact HB.out | refine below_q ?_ | refine below_set ?_ GE101.out) | exact HB.out)))); replace BK101 := Aside0.mk (blk_ub BK101.out hb); replace HB := Aside0.mk (below_step (by repeat (first | (with_reducible first | exact HB.out | refine below_q ?_ | refine below_set ?_ GE101.out) | exact HB.out)) hb); (try clear hb); (try clear hb2); (try clear hk); (try clear hi); (try clear ho0); clear A3; have hcz15_0 := blk_cell BK101.out; have hfz15_0 := blk_frozen BK101.out) | ((with_reducible refine gate_callee (f := 78) rfl ?_); refine goesL_ (some 23) rfl rfl Try.func78 (by kernel_rfl) rfl #[.agg #[.int .i64 a0_0, .int .u64 a0_1, .int .u64 a0_2, .int .u64 a0_3, .int .u64 a0_4, .slice A0_5 l0_5.length c0_5, .slice A0_6 l0_6.length c0_6, .slice A0_7 l0_7.length c0_7, .slice A0_8 l0_8.length c0_8], .int .i64 1] rfl (by (try simp only [List.map_toArray, List.map_cons, List.map_nil]); first | done | rfl | (simp only [List.length_drop, List.length_take]; rfl)) ?_; (with_reducible refine (hist_Pairs.calls k a0_0 a0_1 a0_2 a0_3 a0_4 _ _ l0_5 _ _ l0_6 _ _ l0_7 _ _ l0_8 1 t106 t109 _ ?side1 ?side2 ?side3 ?side4 ?side5 ?side6 ?side7 ?side8 A9.out).mono ?_); (case side1 => exact Kd.C_u (Kd.C_below HR0_5.out HB.out)); (case side2 => exact HC0_5.out); (case side3 => exact Kd.C_u (Kd.C_below HR0_6.out HB.out)); (case side4 => exact HC0_6.out); (case side5 => exact Kd.C_u (Kd.C_below HR0_7.out HB.out)); (case side6 => exact HC0_7.out); (case side7 => exact Kd.C_u (Kd.C_below HR0_8.out HB.out)); (case side8 => exact HC0_8.out); rintro e w16 ⟨v107, rfl, ho0, hb⟩; refine ⟨_, rfl, ?_⟩; have HO108 := Aside0.mk (Kd.R_lower (Kd.R_new' ho0 (Kd.R_lt (Kd.R_u HO104.out))) (below_size (by repeat (first | (with_reducible first | exact HB.out | refine below_q ?_ | refine below_set ?_ GE101.out) | exact HB.out)))); replace HO104 := Aside0.mk (Kd.R_elder' (Kd.R_u HO104.out) (Kd.R_base ho0) hb); replace BK101 := Aside0.mk (blk_ub BK101.out hb); replace HB := Aside0.mk (below_step (by repeat (first | (with_reducible first | exact HB.out | refine below_q ?_ | refine below_set ?_ GE101.out) | exact HB.out)) hb); (try clear hb); (try clear hb2); (try clear hk); (try clear hi); (try clear ho0); clear A9; obtain ⟨Ao17, co17, eo17⟩ := Kd.R_slice HO104.out; subst eo17) | ((with_reducible refine gate_callee (f := 71) rfl ?_); refine goesL_ (some 27) rfl rfl Try.func71 (by kernel_rfl) rfl #[.slice Ao17 t102.length co17, .int .i64 0] rfl (by (try simp only [List.map_toArray, List.map_cons, List.map_nil]); first | done | rfl | (simp only [List.length_drop, List.length_take]; rfl)) ?_; (with_reducible refine (pairs_Without_int64.calls _ _ t102 0 t110 _ ?side1 ?side2 A10.out).mono ?_); (case side1 => exact Kd.C_u (Kd.R_reads' HO104.out).2.2); (case side2 => exact (Kd.R_reads' HO104.out).2.1); rintro e w18 ⟨v111, rfl, ho0, hb⟩; refine ⟨_, rfl, ?_⟩; have HO112 := Aside0.mk (Kd.R_lower (Kd.R_new' (Kd.R_new' ho0 (Kd.R_lt (Kd.R_u HO104.out))) (Kd.R_lt (Kd.R_u HO108.out))) (below_size (by repeat (first | (with_reducible first | exact HB.out | refine below_q ?_ | refine below_set ?_ GE101.out) | exact HB.out)))); replace HO104 := Aside0.mk (Kd.R_elder' (Kd.R_u HO104.out) (Kd.R_base ho0) hb); replace HO108 := Aside0.mk (Kd.R_elder' (Kd.R_u HO108.out) (Kd.R_base ho0) hb); replace BK101 := Aside0.mk (blk_ub BK101.out hb); replace HB := Aside0.mk (below_step (by repeat (first | (with_reducible first | exact HB.out | refine below_q ?_ | refine below_set ?_ GE101.out) | exact HB.out)) hb); (try clear hb); (try clear hb2); (try clear hk); (try clear hi); (try clear ho0); clear A10; obtain ⟨Ao19, co19, eo19⟩ := Kd.R_slice HO108.out; subst eo19) | ((with_reducible refine gate_callee (f := 71) rfl ?_); refine goesL_ (some 29) rfl rfl Try.func71 (by kernel_rfl) rfl #[.slice Ao19 t106.length co19, .int .i64 0] rfl (by (try simp only [List.map_toArray, List.map_cons, List.map_nil]); first | done | rfl | (simp only [List.length_drop, List.length_take]; rfl)) ?_; (with_reducible refine (pairs_Without_int64.calls _ _ t106 0 t113 _ ?side1 ?side2 A11.out).mono ?_); (case side1 => exact Kd.C_u (Kd.R_reads' HO108.out).2.2); (case side2 => exact (Kd.R_reads' HO108.out).2.1); rintro e w20 ⟨v114, rfl, ho0, hb⟩; refine ⟨_, rfl, ?_⟩; have HO115 := Aside0.mk (Kd.R_lower (Kd.R_new' (Kd.R_new' (Kd.R_new' ho0 (Kd.R_lt (Kd.R_u HO104.out))) (Kd.R_lt (Kd.R_u HO108.out))) (Kd.R_lt (Kd.R_u HO112.out))) (below_size (by repeat (first | (with_reducible first | exact HB.out | refine below_q ?_ | refine below_set ?_ GE101.out) | exact HB.out)))); replace HO104 := Aside0.mk (Kd.R_elder' (Kd.R_u HO104.out) (Kd.R_base ho0) hb); replace HO108 := Aside0.mk (Kd.R_elder' (Kd.R_u HO108.out) (Kd.R_base ho0) hb); replace HO112 := Aside0.mk (Kd.R_elder' (Kd.R_u HO112.out) (Kd.R_base ho0) hb); replace BK101 := Aside0.mk (blk_ub BK101.out hb); replace HB := Aside0.mk (below_step (by repeat (first | (with_reducible first | exact HB.out | refine below_q ?_ | refine below_set ?_ GE101.out) | exact HB.out)) hb); (try clear hb); (try clear hb2); (try clear hk); (try clear hi); (try clear ho0); clear A11; have hcz21_0 := blk_cell BK101.out; have hfz21_0 := blk_frozen BK101.out))
  go_loopg [10] k (fun kq v10 w' => ∃ (x10_1 : Int), v10 = .int .i64 x10_1 ∧ Aside0 (scale_Fit.l0 kq a1 t110 t113 x10_1 a0_0 a0_1 a0_2 a0_3 a0_4 l0_5 l0_6 l0_7 l0_8 = some (r1, r2)) ∧ Aside0 (kq ≤ k) ∧ Aside0 (Kd.R k173 173 w' w.heap.size (fun k_ => some k_ ≠ (v114 : Value).ownBlock) v111 t110) ∧ Aside0 (Kd.R k173 173 w' w.heap.size (fun k_ => some k_ ≠ (v111 : Value).ownBlock) v114 t113) ∧ Aside0 (w'.heap[gb101]? = some (.cells #[.int .i64 a0_0, .int .u64 a0_1, .int .u64 a0_2, .int .u64 a0_3, .int .u64 a0_4, (.slice A0_5 l0_5.length c0_5), (.slice A0_6 l0_6.length c0_6), (.slice A0_7 l0_7.length c0_7), (.slice A0_8 l0_8.length c0_8)] 29 (0, 0))) ∧ Aside0 (Below w.heap.size w w'))
  case atStart => exact ⟨(a0_0), (by first | rfl | (simp; done) | (simp [*]; done)), H', ⟨Nat.le_refl _⟩, ⟨by (repeat with_reducible refine Kd.R_q ?_); exact Kd.R_mono HO112.out (fun _ hk => hk.2)⟩, ⟨by (repeat with_reducible refine Kd.R_q ?_); exact Kd.R_mono HO115.out (fun _ hk => hk.2)⟩, ⟨by (repeat with_reducible refine blk_q ?_); exact BK101.out⟩, ⟨by repeat (first | (with_reducible first | exact HB.out | apply below_alloc | apply pw_below_drewN | apply below_drew1 | refine below_set ?_ GE101.out) | exact HB.out)⟩⟩
  case round =>
   clear H'
   try clear p2
   try clear c3
   try clear c4
   try clear c4b0
   try clear c4b1
   try clear c5
   try clear c5b0
   try clear c7
   try clear hcz13_0
   try clear hcz15_0
   try clear hcz21_0
   try clear hcz7_0
   try clear hfz13_0
   try clear hfz15_0
   try clear hfz21_0
   try clear hfz7_0
   obtain ⟨x10_1, rfl, HA, HK1, HO_6, HO_8, BK101, HB⟩ := hrel
   cases gk with
   | zero => exact absurd HA.out (by simp [scale_Fit.l0])
   | succ k1 =>
    have H := HA.out
    clear HA
    simp only [scale_Fit.l0] at H
    by_cases c22 : x10_1 ≥ (-4)
    ·rw [if_pos c22] at H
     have c22b0 : decide ((-4) ≤ x10_1) = true := decide_eq_true c22
     clear c22
     replace H := Option.bind_eq_some_iff.mp H
     obtain ⟨t116, A230, H⟩ := H
     replace H : ((scale_many.f k1 t113 (wrap64 (a0_0 - x10_1))).bind fun t117 => (if (wrap64 (t116 + t117)) ≤ a1 then (some (x10_1, 0)) else (scale_Fit.l0 k1 a1 t110 t113 (wrap64 (x10_1 - 1)) a0_0 a0_1 a0_2 a0_3 a0_4 l0_5 l0_6 l0_7 l0_8))) = some (r1, r2) := H
     have A23 := Aside0.mk A230
     clear A230
     replace H := Option.bind_eq_some_iff.mp H
     obtain ⟨t117, A240, H⟩ := H
     replace H : (if (wrap64 (t116 + t117)) ≤ a1 then (some (x10_1, 0)) else (scale_Fit.l0 k1 a1 t110 t113 (wrap64 (x10_1 - 1)) a0_0 a0_1 a0_2 a0_3 a0_4 l0_5 l0_6 l0_7 l0_8)) = some (r1, r2) := H
     have A24 := Aside0.mk A240
     clear A240
     by_cases c25 : (wrap64 (t116 + t117)) ≤ a1
     ·rw [if_pos c25] at H
      have c25b0 : decide ((wrap64 (t116 + t117)) ≤ a1) = true := decide_eq_true c25
      clear c25
      simp only [Option.some.injEq, Prod.mk.injEq] at H
      obtain ⟨rfl, rfl⟩ := H
      try go_wp2
      have n0_ := Aside0.mk (Kd.R_drew HO_6.out)
      have n1_ := Aside0.mk (Kd.R_drew HO_8.out)
      have n2_ := Aside0.mk (blk_drew BK101.out)
      have n3_ := Aside0.mk (below_drew1 HB.out)
      clear HO_6
      clear HO_8
      clear BK101
      clear HB
      have HO_6 := n0_
      have HO_8 := n1_
      have BK101 := n2_
      have HB := n3_
      clear n0_ n1_ n2_ n3_
      obtain ⟨Ao27, co27, eo27⟩ := Kd.R_slice HO_6.out
      (first | subst eo27 | (injection eo27 with f1_ f2_ f3_; have f4_ := f1_.symm; have f5_ := f3_.symm; clear f1_ f2_ f3_; subst f4_; subst f5_))
      refine start_ (n := 15) (S := fun w' => w'.cell? ⟨gb101, 0, none⟩ = some (.int .i64 a0_0) ∧ w'.cell? ⟨gb101, 1, none⟩ = some (.int .u64 a0_1) ∧ w'.cell? ⟨gb101, 2, none⟩ = some (.int .u64 a0_2) ∧ w'.cell? ⟨gb101, 3, none⟩ = some (.int .u64 a0_3) ∧ w'.cell? ⟨gb101, 4, none⟩ = some (.int .u64 a0_4) ∧ w'.cell? ⟨gb101, 5, none⟩ = some (.slice A0_5 l0_5.length c0_5) ∧ w'.cell? ⟨gb101, 6, none⟩ = some (.slice A0_6 l0_6.length c0_6) ∧ w'.cell? ⟨gb101, 7, none⟩ = some (.slice A0_7 l0_7.length c0_7) ∧ w'.cell? ⟨gb101, 8, none⟩ = some (.slice A0_8 l0_8.length c0_8)) (ds := []) #[false, false, false, false, false, false, false, false, false, false, false, false, false, false, false] (by kernel_rfl) rfl rfl ⟨(blk_cell BK101.out 0).trans rfl, (blk_cell BK101.out 1).trans rfl, (blk_cell BK101.out 2).trans rfl, (blk_cell BK101.out 3).trans rfl, (blk_cell BK101.out 4).trans rfl, (blk_cell BK101.out 5).trans rfl, (blk_cell BK101.out 6).trans rfl, (blk_cell BK101.out 7).trans rfl, (blk_cell BK101.out 8).trans rfl⟩ (fun hHeld => ?_); refine with_tabW scale_Fit.tab11 scale_Fit.bits11 (fun HT_ HW_ => ?_)
      generalize wr.drew = w26 at HO_6 HO_8 BK101 HB hHeld ⊢
      refine pure_ (i := 0) (N := some 36) (v := ?_) (a' := ?_) #[true, false, false, false, false, false, false, false, false, false, false, false, false, false, false] rfl rfl (any_of HT_.out (by kernel_rfl)) (fun _ _ _ h => h) (Or.inl ⟨by rfl, ?_⟩) ?_ ?_
      rotate_left
      ·intro w'
       go_simp
       with_reducible rfl
      rotate_left
      ·simp only [Act.put, List.setIfInBounds_toArray, List.set_cons_zero, List.set_cons_succ, i64_w, i32_w]
       rfl
      refine pure_ (i := 1) (N := some 37) (v := ?_) (a' := ?_) #[true, true, false, false, false, false, false, false, false, false, false, false, false, false, false] rfl rfl (any_of HT_.out (by kernel_rfl)) (fun _ _ _ h => h) (Or.inl ⟨by rfl, ?_⟩) ?_ ?_
      rotate_left
      ·intro w'
       go_simp
       with_reducible rfl
      rotate_left
      ·simp only [Act.put, List.setIfInBounds_toArray, List.set_cons_zero, List.set_cons_succ, i64_w, i32_w]
       rfl
      refine pure_ (i := 3) (N := some 39) (v := ?_) (a' := ?_) #[true, true, false, true, false, false, false, false, false, false, false, false, false, false, false] rfl rfl (any_of HT_.out (by kernel_rfl)) (fun _ _ _ h => h) (Or.inl ⟨by rfl, ?_⟩) ?_ ?_
      rotate_left
      ·intro w'
       go_simp
       with_reducible rfl
      rotate_left
      ·simp only [Act.put, List.setIfInBounds_toArray, List.set_cons_zero, List.set_cons_succ, i64_w, i32_w]
       rfl
      refine pure_ (i := 6) (N := some 42) (v := ?_) (a' := ?_) #[true, true, false, true, false, false, true, false, false, false, false, false, false, false, false] rfl rfl (any_of HT_.out (by kernel_rfl)) (fun _ _ _ h => h) (Or.inl ⟨by rfl, ?_⟩) ?_ ?_
      rotate_left
      ·intro w'
       go_simp
       with_reducible rfl
      rotate_left
      ·simp only [Act.put, List.setIfInBounds_toArray, List.set_cons_zero, List.set_cons_succ, i64_w, i32_w]
       rfl
      refine pure_ (i := 7) (N := some 43) (v := ?_) (a' := ?_) #[true, true, false, true, false, false, true, true, false, false, false, false, false, false, false] rfl rfl (any_of HT_.out (by kernel_rfl)) (fun _ _ _ h => h) (Or.inl ⟨by rfl, ?_⟩) ?_ ?_
      rotate_left
      ·intro w'
       go_simp
       with_reducible rfl
      rotate_left
      ·simp only [Act.put, List.setIfInBounds_toArray, List.set_cons_zero, List.set_cons_succ, i64_w, i32_w]
       rfl
      refine pure_ (i := 9) (N := some 45) (v := ?_) (a' := ?_) #[true, true, false, true, false, false, true, true, false, true, false, false, false, false, false] rfl rfl (any_of HT_.out (by kernel_rfl)) (fun _ _ _ h => h) (Or.inl ⟨by rfl, ?_⟩) ?_ ?_
      rotate_left
      ·intro w'
       go_simp
       with_reducible rfl
      rotate_left
      ·simp only [Act.put, List.setIfInBounds_toArray, List.set_cons_zero, List.set_cons_succ, i64_w, i32_w]
       rfl
      refine pure_ (i := 13) (N := some 49) (v := ?_) (a' := ?_) #[true, true, false, true, false, false, true, true, false, true, false, false, false, true, false] rfl rfl (any_of HT_.out (by kernel_rfl)) (fun _ _ _ h => h) (Or.inl ⟨by rfl, ?_⟩) ?_ ?_
      rotate_left
      ·intro w'
       go_simp
       with_reducible rfl
      rotate_left
      ·simp only [Act.put, List.setIfInBounds_toArray, List.set_cons_zero, List.set_cons_succ, i64_w, i32_w]
       rfl
      refine take_ (i := 2) (N := some 38) (v := ?_) (a' := ?_) #[true, true, true, true, false, false, true, true, false, true, false, false, false, true, false] rfl rfl (take_ofW HT_.out HW_.out (by kernel_rfl)) (fun _ _ _ h => h) (Or.inl ⟨by rfl, ?_⟩) hHeld ?_ ?_
      rotate_left
      ·rintro w' ⟨s0, s1, s2, s3, s4, s5, s6, s7, s8⟩
       go_simp
       with_reducible rfl
      rotate_left
      ·simp only [Act.put, List.setIfInBounds_toArray, List.set_cons_zero, List.set_cons_succ, i64_w, i32_w]
       rfl
      refine pure_ (i := 4) (N := some 40) (v := ?_) (a' := ?_) #[true, true, true, true, true, false, true, true, false, true, false, false, false, true, false] rfl rfl (any_of HT_.out (by kernel_rfl)) (fun _ _ _ h => h) (Or.inl ⟨by rfl, ?_⟩) ?_ ?_
      rotate_left
      ·intro w'
       go_simp
       with_reducible rfl
      rotate_left
      ·simp only [Act.put, List.setIfInBounds_toArray, List.set_cons_zero, List.set_cons_succ, i64_w, i32_w]
       rfl
      refine take_ (i := 8) (N := some 44) (v := ?_) (a' := ?_) #[true, true, true, true, true, false, true, true, true, true, false, false, false, true, false] rfl rfl (take_ofW HT_.out HW_.out (by kernel_rfl)) (fun _ _ _ h => h) (Or.inl ⟨by rfl, ?_⟩) hHeld ?_ ?_
      rotate_left
      ·rintro w' ⟨s0, s1, s2, s3, s4, s5, s6, s7, s8⟩
       go_simp
       with_reducible rfl
      rotate_left
      ·simp only [Act.put, List.setIfInBounds_toArray, List.set_cons_zero, List.set_cons_succ, i64_w, i32_w]
       rfl
      refine pure_ (i := 10) (N := some 46) (v := ?_) (a' := ?_) #[true, true, true, true, true, false, true, true, true, true, true, false, false, true, false] rfl rfl (any_of HT_.out (by kernel_rfl)) (fun _ _ _ h => h) (Or.inl ⟨by rfl, ?_⟩) ?_ ?_
      rotate_left
      ·intro w'
       go_simp
       with_reducible rfl
      rotate_left
      ·simp only [Act.put, List.setIfInBounds_toArray, List.set_cons_zero, List.set_cons_succ, i64_w, i32_w]
       rfl
      refine one_ (i := 5) (N := some 41) #[true, true, true, true, true, true, true, true, true, true, true, false, false, true, false] rfl rfl (one_of HT_.out (by kernel_rfl)) (by decide) (fun K hK => ?_)
      refine goes_ Try.func100 (by kernel_rfl) rfl #[.slice Ao27 t110.length co27, .int .i64 (wrap64 (a0_0 - x10_1))] (by rfl) rfl rfl (by (try simp only [List.map_toArray, List.map_cons, List.map_nil]); first | done | rfl | (simp only [List.length_drop, List.length_take]; rfl)) ?_
      with_reducible refine (scale_many.calls k1 _ _ t110 (wrap64 (a0_0 - x10_1)) t116 _ ?side1 ?side2 A23.out).mono ?_
      (case side1 => exact Kd.C_u (Kd.R_reads' HO_6.out).2.2)
      (case side2 => exact (Kd.R_reads' HO_6.out).2.1)
      rintro e w28 ⟨rfl, hb⟩
      refine ⟨_, rfl, ?_⟩
      have n0_ := Aside0.mk (Kd.R_ub HO_6.out hb)
      have n1_ := Aside0.mk (Kd.R_ub HO_8.out hb)
      have n2_ := Aside0.mk (blk_ub BK101.out hb)
      have n3_ := Aside0.mk (below_step (by repeat (first | (with_reducible first | exact HB.out | refine below_q ?_ | refine below_set ?_ GE101.out) | exact HB.out)) hb)
      clear HO_6
      clear HO_8
      clear BK101
      clear HB
      have HO_6 := n0_
      have HO_8 := n1_
      have BK101 := n2_
      have HB := n3_
      clear n0_ n1_ n2_ n3_
      (try clear hb)
      (try clear hb2)
      (try clear hk)
      (try clear hi)
      obtain ⟨Ao29, co29, eo29⟩ := Kd.R_slice HO_8.out
      (first | subst eo29 | (injection eo29 with f1_ f2_ f3_; have f4_ := f1_.symm; have f5_ := f3_.symm; clear f1_ f2_ f3_; subst f4_; subst f5_))
      refine hK.out _ _ ⟨(blk_cell BK101.out 0).trans rfl, (blk_cell BK101.out 1).trans rfl, (blk_cell BK101.out 2).trans rfl, (blk_cell BK101.out 3).trans rfl, (blk_cell BK101.out 4).trans rfl, (blk_cell BK101.out 5).trans rfl, (blk_cell BK101.out 6).trans rfl, (blk_cell BK101.out 7).trans rfl, (blk_cell BK101.out 8).trans rfl⟩ (fun hHeld => ?_)
      clear hK K
      refine norm_ (a' := ?_) ?_ ?_
      rotate_left
      ·show Act.put _ (some 41) _ = _
       simp only [Act.put, List.setIfInBounds_toArray, List.set_cons_zero, List.set_cons_succ, i64_w, i32_w]
       rfl
      refine one_ (i := 11) (N := some 47) #[true, true, true, true, true, true, true, true, true, true, true, true, false, true, false] rfl rfl (one_of HT_.out (by kernel_rfl)) (by decide) (fun K hK => ?_)
      refine goes_ Try.func100 (by kernel_rfl) rfl #[.slice Ao29 t113.length co29, .int .i64 (wrap64 (a0_0 - x10_1))] (by rfl) rfl rfl (by (try simp only [List.map_toArray, List.map_cons, List.map_nil]); first | done | rfl | (simp only [List.length_drop, List.length_take]; rfl)) ?_
      with_reducible refine (scale_many.calls k1 _ _ t113 (wrap64 (a0_0 - x10_1)) t117 _ ?side1 ?side2 A24.out).mono ?_
      (case side1 => exact Kd.C_u (Kd.R_reads' HO_8.out).2.2)
      (case side2 => exact (Kd.R_reads' HO_8.out).2.1)
      rintro e w30 ⟨rfl, hb⟩
      refine ⟨_, rfl, ?_⟩
      have n0_ := Aside0.mk (Kd.R_ub HO_6.out hb)
      have n1_ := Aside0.mk (Kd.R_ub HO_8.out hb)
      have n2_ := Aside0.mk (blk_ub BK101.out hb)
      have n3_ := Aside0.mk (below_step (by repeat (first | (with_reducible first | exact HB.out | refine below_q ?_ | refine below_set ?_ GE101.out) | exact HB.out)) hb)
      clear HO_6
      clear HO_8
      clear BK101
      clear HB
      have HO_6 := n0_
      have HO_8 := n1_
      have BK101 := n2_
      have HB := n3_
      clear n0_ n1_ n2_ n3_
      (try clear hb)
      (try clear hb2)
      (try clear hk)
      (try clear hi)
      refine hK.out _ _ ⟨(blk_cell BK101.out 0).trans rfl, (blk_cell BK101.out 1).trans rfl, (blk_cell BK101.out 2).trans rfl, (blk_cell BK101.out 3).trans rfl, (blk_cell BK101.out 4).trans rfl, (blk_cell BK101.out 5).trans rfl, (blk_cell BK101.out 6).trans rfl, (blk_cell BK101.out 7).trans rfl, (blk_cell BK101.out 8).trans rfl⟩ (fun hHeld => ?_)
      clear hK K
      refine norm_ (a' := ?_) ?_ ?_
      rotate_left
      ·show Act.put _ (some 47) _ = _
       simp only [Act.put, List.setIfInBounds_toArray, List.set_cons_zero, List.set_cons_succ, i64_w, i32_w]
       rfl
      refine pure_ (i := 12) (N := some 48) (v := ?_) (a' := ?_) #[true, true, true, true, true, true, true, true, true, true, true, true, true, true, false] rfl rfl (any_of HT_.out (by kernel_rfl)) (fun _ _ _ h => h) (Or.inl ⟨by rfl, ?_⟩) ?_ ?_
      rotate_left
      ·intro w'
       go_simp
       with_reducible rfl
      rotate_left
      ·simp only [Act.put, List.setIfInBounds_toArray, List.set_cons_zero, List.set_cons_succ, i64_w, i32_w]
       rfl
      refine pure_ (i := 14) (N := some 50) (v := ?_) (a' := ?_) #[true, true, true, true, true, true, true, true, true, true, true, true, true, true, true] rfl rfl (any_of HT_.out (by kernel_rfl)) (fun _ _ _ h => h) (Or.inl ⟨by rfl, ?_⟩) ?_ ?_
      rotate_left
      ·intro w'
       go_simp
       with_reducible rfl
      rotate_left
      ·simp only [Act.put, List.setIfInBounds_toArray, List.set_cons_zero, List.set_cons_succ, i64_w, i32_w]
       rfl
      refine done_ (done_of HT_.out (by kernel_rfl)) ?_
      try go_wp2
      go_ret2
      exact ⟨by first | rfl | (simp [errW_none, errW_some] <;> rfl) | (simp [*, errW_none, errW_some] <;> rfl), by repeat (first | (with_reducible first | exact HB.out | apply below_alloc | apply pw_below_drewN | apply below_drew1 | refine below_set ?_ GE101.out) | exact HB.out)⟩
     rw [if_neg c25] at H
     have c25b0 : decide ((wrap64 (t116 + t117)) ≤ a1) = false := decide_eq_false c25
     clear c25
     have H' := Aside0.mk H
     clear H
     try go_wp2
     have n0_ := Aside0.mk (Kd.R_drew HO_6.out)
     have n1_ := Aside0.mk (Kd.R_drew HO_8.out)
     have n2_ := Aside0.mk (blk_drew BK101.out)
     have n3_ := Aside0.mk (below_drew1 HB.out)
     clear HO_6
     clear HO_8
     clear BK101
     clear HB
     have HO_6 := n0_
     have HO_8 := n1_
     have BK101 := n2_
     have HB := n3_
     clear n0_ n1_ n2_ n3_
     obtain ⟨Ao32, co32, eo32⟩ := Kd.R_slice HO_6.out
     (first | subst eo32 | (injection eo32 with f1_ f2_ f3_; have f4_ := f1_.symm; have f5_ := f3_.symm; clear f1_ f2_ f3_; subst f4_; subst f5_))
     refine start_ (n := 15) (S := fun w' => w'.cell? ⟨gb101, 0, none⟩ = some (.int .i64 a0_0) ∧ w'.cell? ⟨gb101, 1, none⟩ = some (.int .u64 a0_1) ∧ w'.cell? ⟨gb101, 2, none⟩ = some (.int .u64 a0_2) ∧ w'.cell? ⟨gb101, 3, none⟩ = some (.int .u64 a0_3) ∧ w'.cell? ⟨gb101, 4, none⟩ = some (.int .u64 a0_4) ∧ w'.cell? ⟨gb101, 5, none⟩ = some (.slice A0_5 l0_5.length c0_5) ∧ w'.cell? ⟨gb101, 6, none⟩ = some (.slice A0_6 l0_6.length c0_6) ∧ w'.cell? ⟨gb101, 7, none⟩ = some (.slice A0_7 l0_7.length c0_7) ∧ w'.cell? ⟨gb101, 8, none⟩ = some (.slice A0_8 l0_8.length c0_8)) (ds := []) #[false, false, false, false, false, false, false, false, false, false, false, false, false, false, false] (by kernel_rfl) rfl rfl ⟨(blk_cell BK101.out 0).trans rfl, (blk_cell BK101.out 1).trans rfl, (blk_cell BK101.out 2).trans rfl, (blk_cell BK101.out 3).trans rfl, (blk_cell BK101.out 4).trans rfl, (blk_cell BK101.out 5).trans rfl, (blk_cell BK101.out 6).trans rfl, (blk_cell BK101.out 7).trans rfl, (blk_cell BK101.out 8).trans rfl⟩ (fun hHeld => ?_); refine with_tabW scale_Fit.tab11 scale_Fit.bits11 (fun HT_ HW_ => ?_)
     generalize wr.drew = w31 at HO_6 HO_8 BK101 HB hHeld ⊢
     refine pure_ (i := 0) (N := some 36) (v := ?_) (a' := ?_) #[true, false, false, false, false, false, false, false, false, false, false, false, false, false, false] rfl rfl (any_of HT_.out (by kernel_rfl)) (fun _ _ _ h => h) (Or.inl ⟨by rfl, ?_⟩) ?_ ?_
     rotate_left
     ·intro w'
      go_simp
      with_reducible rfl
     rotate_left
     ·simp only [Act.put, List.setIfInBounds_toArray, List.set_cons_zero, List.set_cons_succ, i64_w, i32_w]
      rfl
     refine pure_ (i := 1) (N := some 37) (v := ?_) (a' := ?_) #[true, true, false, false, false, false, false, false, false, false, false, false, false, false, false] rfl rfl (any_of HT_.out (by kernel_rfl)) (fun _ _ _ h => h) (Or.inl ⟨by rfl, ?_⟩) ?_ ?_
     rotate_left
     ·intro w'
      go_simp
      with_reducible rfl
     rotate_left
     ·simp only [Act.put, List.setIfInBounds_toArray, List.set_cons_zero, List.set_cons_succ, i64_w, i32_w]
      rfl
     refine pure_ (i := 3) (N := some 39) (v := ?_) (a' := ?_) #[true, true, false, true, false, false, false, false, false, false, false, false, false, false, false] rfl rfl (any_of HT_.out (by kernel_rfl)) (fun _ _ _ h => h) (Or.inl ⟨by rfl, ?_⟩) ?_ ?_
     rotate_left
     ·intro w'
      go_simp
      with_reducible rfl
     rotate_left
     ·simp only [Act.put, List.setIfInBounds_toArray, List.set_cons_zero, List.set_cons_succ, i64_w, i32_w]
      rfl
     refine pure_ (i := 6) (N := some 42) (v := ?_) (a' := ?_) #[true, true, false, true, false, false, true, false, false, false, false, false, false, false, false] rfl rfl (any_of HT_.out (by kernel_rfl)) (fun _ _ _ h => h) (Or.inl ⟨by rfl, ?_⟩) ?_ ?_
     rotate_left
     ·intro w'
      go_simp
      with_reducible rfl
     rotate_left
     ·simp only [Act.put, List.setIfInBounds_toArray, List.set_cons_zero, List.set_cons_succ, i64_w, i32_w]
      rfl
     refine pure_ (i := 7) (N := some 43) (v := ?_) (a' := ?_) #[true, true, false, true, false, false, true, true, false, false, false, false, false, false, false] rfl rfl (any_of HT_.out (by kernel_rfl)) (fun _ _ _ h => h) (Or.inl ⟨by rfl, ?_⟩) ?_ ?_
     rotate_left
     ·intro w'
      go_simp
      with_reducible rfl
     rotate_left
     ·simp only [Act.put, List.setIfInBounds_toArray, List.set_cons_zero, List.set_cons_succ, i64_w, i32_w]
      rfl
     refine pure_ (i := 9) (N := some 45) (v := ?_) (a' := ?_) #[true, true, false, true, false, false, true, true, false, true, false, false, false, false, false] rfl rfl (any_of HT_.out (by kernel_rfl)) (fun _ _ _ h => h) (Or.inl ⟨by rfl, ?_⟩) ?_ ?_
     rotate_left
     ·intro w'
      go_simp
      with_reducible rfl
     rotate_left
     ·simp only [Act.put, List.setIfInBounds_toArray, List.set_cons_zero, List.set_cons_succ, i64_w, i32_w]
      rfl
     refine pure_ (i := 13) (N := some 49) (v := ?_) (a' := ?_) #[true, true, false, true, false, false, true, true, false, true, false, false, false, true, false] rfl rfl (any_of HT_.out (by kernel_rfl)) (fun _ _ _ h => h) (Or.inl ⟨by rfl, ?_⟩) ?_ ?_
     rotate_left
     ·intro w'
      go_simp
      with_reducible rfl
     rotate_left
     ·simp only [Act.put, List.setIfInBounds_toArray, List.set_cons_zero, List.set_cons_succ, i64_w, i32_w]
      rfl
     refine take_ (i := 2) (N := some 38) (v := ?_) (a' := ?_) #[true, true, true, true, false, false, true, true, false, true, false, false, false, true, false] rfl rfl (take_ofW HT_.out HW_.out (by kernel_rfl)) (fun _ _ _ h => h) (Or.inl ⟨by rfl, ?_⟩) hHeld ?_ ?_
     rotate_left
     ·rintro w' ⟨s0, s1, s2, s3, s4, s5, s6, s7, s8⟩
      go_simp
      with_reducible rfl
     rotate_left
     ·simp only [Act.put, List.setIfInBounds_toArray, List.set_cons_zero, List.set_cons_succ, i64_w, i32_w]
      rfl
     refine pure_ (i := 4) (N := some 40) (v := ?_) (a' := ?_) #[true, true, true, true, true, false, true, true, false, true, false, false, false, true, false] rfl rfl (any_of HT_.out (by kernel_rfl)) (fun _ _ _ h => h) (Or.inl ⟨by rfl, ?_⟩) ?_ ?_
     rotate_left
     ·intro w'
      go_simp
      with_reducible rfl
     rotate_left
     ·simp only [Act.put, List.setIfInBounds_toArray, List.set_cons_zero, List.set_cons_succ, i64_w, i32_w]
      rfl
     refine take_ (i := 8) (N := some 44) (v := ?_) (a' := ?_) #[true, true, true, true, true, false, true, true, true, true, false, false, false, true, false] rfl rfl (take_ofW HT_.out HW_.out (by kernel_rfl)) (fun _ _ _ h => h) (Or.inl ⟨by rfl, ?_⟩) hHeld ?_ ?_
     rotate_left
     ·rintro w' ⟨s0, s1, s2, s3, s4, s5, s6, s7, s8⟩
      go_simp
      with_reducible rfl
     rotate_left
     ·simp only [Act.put, List.setIfInBounds_toArray, List.set_cons_zero, List.set_cons_succ, i64_w, i32_w]
      rfl
     refine pure_ (i := 10) (N := some 46) (v := ?_) (a' := ?_) #[true, true, true, true, true, false, true, true, true, true, true, false, false, true, false] rfl rfl (any_of HT_.out (by kernel_rfl)) (fun _ _ _ h => h) (Or.inl ⟨by rfl, ?_⟩) ?_ ?_
     rotate_left
     ·intro w'
      go_simp
      with_reducible rfl
     rotate_left
     ·simp only [Act.put, List.setIfInBounds_toArray, List.set_cons_zero, List.set_cons_succ, i64_w, i32_w]
      rfl
     refine one_ (i := 5) (N := some 41) #[true, true, true, true, true, true, true, true, true, true, true, false, false, true, false] rfl rfl (one_of HT_.out (by kernel_rfl)) (by decide) (fun K hK => ?_)
     refine goes_ Try.func100 (by kernel_rfl) rfl #[.slice Ao32 t110.length co32, .int .i64 (wrap64 (a0_0 - x10_1))] (by rfl) rfl rfl (by (try simp only [List.map_toArray, List.map_cons, List.map_nil]); first | done | rfl | (simp only [List.length_drop, List.length_take]; rfl)) ?_
     with_reducible refine (scale_many.calls k1 _ _ t110 (wrap64 (a0_0 - x10_1)) t116 _ ?side1 ?side2 A23.out).mono ?_
     (case side1 => exact Kd.C_u (Kd.R_reads' HO_6.out).2.2)
     (case side2 => exact (Kd.R_reads' HO_6.out).2.1)
     rintro e w33 ⟨rfl, hb⟩
     refine ⟨_, rfl, ?_⟩
     have n0_ := Aside0.mk (Kd.R_ub HO_6.out hb)
     have n1_ := Aside0.mk (Kd.R_ub HO_8.out hb)
     have n2_ := Aside0.mk (blk_ub BK101.out hb)
     have n3_ := Aside0.mk (below_step (by repeat (first | (with_reducible first | exact HB.out | refine below_q ?_ | refine below_set ?_ GE101.out) | exact HB.out)) hb)
     clear HO_6
     clear HO_8
     clear BK101
     clear HB
     have HO_6 := n0_
     have HO_8 := n1_
     have BK101 := n2_
     have HB := n3_
     clear n0_ n1_ n2_ n3_
     (try clear hb)
     (try clear hb2)
     (try clear hk)
     (try clear hi)
     obtain ⟨Ao34, co34, eo34⟩ := Kd.R_slice HO_8.out
     (first | subst eo34 | (injection eo34 with f1_ f2_ f3_; have f4_ := f1_.symm; have f5_ := f3_.symm; clear f1_ f2_ f3_; subst f4_; subst f5_))
     refine hK.out _ _ ⟨(blk_cell BK101.out 0).trans rfl, (blk_cell BK101.out 1).trans rfl, (blk_cell BK101.out 2).trans rfl, (blk_cell BK101.out 3).trans rfl, (blk_cell BK101.out 4).trans rfl, (blk_cell BK101.out 5).trans rfl, (blk_cell BK101.out 6).trans rfl, (blk_cell BK101.out 7).trans rfl, (blk_cell BK101.out 8).trans rfl⟩ (fun hHeld => ?_)
     clear hK K
     refine norm_ (a' := ?_) ?_ ?_
     rotate_left
     ·show Act.put _ (some 41) _ = _
      simp only [Act.put, List.setIfInBounds_toArray, List.set_cons_zero, List.set_cons_succ, i64_w, i32_w]
      rfl
     refine one_ (i := 11) (N := some 47) #[true, true, true, true, true, true, true, true, true, true, true, true, false, true, false] rfl rfl (one_of HT_.out (by kernel_rfl)) (by decide) (fun K hK => ?_)
     refine goes_ Try.func100 (by kernel_rfl) rfl #[.slice Ao34 t113.length co34, .int .i64 (wrap64 (a0_0 - x10_1))] (by rfl) rfl rfl (by (try simp only [List.map_toArray, List.map_cons, List.map_nil]); first | done | rfl | (simp only [List.length_drop, List.length_take]; rfl)) ?_
     with_reducible refine (scale_many.calls k1 _ _ t113 (wrap64 (a0_0 - x10_1)) t117 _ ?side1 ?side2 A24.out).mono ?_
     (case side1 => exact Kd.C_u (Kd.R_reads' HO_8.out).2.2)
     (case side2 => exact (Kd.R_reads' HO_8.out).2.1)
     rintro e w35 ⟨rfl, hb⟩
     refine ⟨_, rfl, ?_⟩
     have n0_ := Aside0.mk (Kd.R_ub HO_6.out hb)
     have n1_ := Aside0.mk (Kd.R_ub HO_8.out hb)
     have n2_ := Aside0.mk (blk_ub BK101.out hb)
     have n3_ := Aside0.mk (below_step (by repeat (first | (with_reducible first | exact HB.out | refine below_q ?_ | refine below_set ?_ GE101.out) | exact HB.out)) hb)
     clear HO_6
     clear HO_8
     clear BK101
     clear HB
     have HO_6 := n0_
     have HO_8 := n1_
     have BK101 := n2_
     have HB := n3_
     clear n0_ n1_ n2_ n3_
     (try clear hb)
     (try clear hb2)
     (try clear hk)
     (try clear hi)
     refine hK.out _ _ ⟨(blk_cell BK101.out 0).trans rfl, (blk_cell BK101.out 1).trans rfl, (blk_cell BK101.out 2).trans rfl, (blk_cell BK101.out 3).trans rfl, (blk_cell BK101.out 4).trans rfl, (blk_cell BK101.out 5).trans rfl, (blk_cell BK101.out 6).trans rfl, (blk_cell BK101.out 7).trans rfl, (blk_cell BK101.out 8).trans rfl⟩ (fun hHeld => ?_)
     clear hK K
     refine norm_ (a' := ?_) ?_ ?_
     rotate_left
     ·show Act.put _ (some 47) _ = _
      simp only [Act.put, List.setIfInBounds_toArray, List.set_cons_zero, List.set_cons_succ, i64_w, i32_w]
      rfl
     refine pure_ (i := 12) (N := some 48) (v := ?_) (a' := ?_) #[true, true, true, true, true, true, true, true, true, true, true, true, true, true, false] rfl rfl (any_of HT_.out (by kernel_rfl)) (fun _ _ _ h => h) (Or.inl ⟨by rfl, ?_⟩) ?_ ?_
     rotate_left
     ·intro w'
      go_simp
      with_reducible rfl
     rotate_left
     ·simp only [Act.put, List.setIfInBounds_toArray, List.set_cons_zero, List.set_cons_succ, i64_w, i32_w]
      rfl
     refine pure_ (i := 14) (N := some 50) (v := ?_) (a' := ?_) #[true, true, true, true, true, true, true, true, true, true, true, true, true, true, true] rfl rfl (any_of HT_.out (by kernel_rfl)) (fun _ _ _ h => h) (Or.inl ⟨by rfl, ?_⟩) ?_ ?_
     rotate_left
     ·intro w'
      go_simp
      with_reducible rfl
     rotate_left
     ·simp only [Act.put, List.setIfInBounds_toArray, List.set_cons_zero, List.set_cons_succ, i64_w, i32_w]
      rfl
     refine done_ (done_of HT_.out (by kernel_rfl)) ?_
     try go_wp2
     go_roundg k1
     case measure => have := HK1.out; omega
     case rel => exact ⟨(wrap64 (x10_1 - 1)), (by first | rfl | (simp; done) | (simp [*]; done)), H', ⟨by have := HK1.out; omega⟩, ⟨by (repeat with_reducible refine Kd.R_q ?_); exact HO_6.out⟩, ⟨by (repeat with_reducible refine Kd.R_q ?_); exact HO_8.out⟩, ⟨by (repeat with_reducible refine blk_q ?_); exact BK101.out⟩, ⟨by repeat (first | (with_reducible first | exact HB.out | apply below_alloc | apply pw_below_drewN | apply below_drew1 | refine below_set ?_ GE101.out) | exact HB.out)⟩⟩
    rw [if_neg c22] at H
    have c22b0 : decide ((-4) ≤ x10_1) = false := decide_eq_false c22
    clear c22
    simp only [Option.some.injEq, Prod.mk.injEq] at H
    obtain ⟨rfl, rfl⟩ := H
    go_wp2
    go_ret2
    exact ⟨by first | rfl | (simp [errW_none, errW_some] <;> rfl) | (simp [*, errW_none, errW_some] <;> rfl), by repeat (first | (with_reducible first | exact HB.out | apply below_alloc | apply pw_below_drewN | apply below_drew1 | refine below_set ?_ GE101.out) | exact HB.out)⟩
 rw [if_neg c4] at H
 have c4b0 : (t105 == 0) = false := beq_eq_false_iff_ne.mpr c4
 have c4b1 : (t105 != 0) = true := bne_iff_ne.mpr c4
 simp only [Option.some.injEq, Prod.mk.injEq] at H
 obtain ⟨rfl, rfl⟩ := H
 go_enter Try.func38, Try.ntmps38
 go_wp2_with (first | ((with_reducible refine gate_dst (N := 2) rfl ?_); refine box_event ?hg (N := 2) ?hd (cs := #[.int .i64 a0_0, .int .u64 a0_1, .int .u64 a0_2, .int .u64 a0_3, .int .u64 a0_4, .slice A0_5 l0_5.length c0_5, .slice A0_6 l0_6.length c0_6, .slice A0_7 l0_7.length c0_7, .slice A0_8 l0_8.length c0_8]) (t := 29) ?hr ?_; (case hd => rfl); (case hg => rfl); (case hr => first | (go_simp; done) | (go_simp; rfl)); intro gb101 hg w36 hbox hb; have BK101 := Aside0.mk (hbox); have GW101 := Aside0.mk ((by rw [hg]; exact (below_size (below_u HB.out)) : w.heap.size ≤ gb101)); have GE101 := Aside0.mk ((by rw [hg]; exact (below_size (below_u HB.out)) : w.heap.size ≤ gb101)); replace HB := Aside0.mk (below_step (below_u HB.out) hb); clear hb hbox hg; have hcz37_0 := blk_cell BK101.out; have hfz37_0 := blk_frozen BK101.out) | ((with_reducible refine gate_callee (f := 78) rfl ?_); refine goesL_ (some 13) rfl rfl Try.func78 (by kernel_rfl) rfl #[.agg #[.int .i64 a0_0, .int .u64 a0_1, .int .u64 a0_2, .int .u64 a0_3, .int .u64 a0_4, .slice A0_5 l0_5.length c0_5, .slice A0_6 l0_6.length c0_6, .slice A0_7 l0_7.length c0_7, .slice A0_8 l0_8.length c0_8], .int .i64 0] rfl (by (try simp only [List.map_toArray, List.map_cons, List.map_nil]); first | done | rfl | (simp only [List.length_drop, List.length_take]; rfl)) ?_; (with_reducible refine (hist_Pairs.calls k a0_0 a0_1 a0_2 a0_3 a0_4 _ _ l0_5 _ _ l0_6 _ _ l0_7 _ _ l0_8 0 t102 t105 _ ?side1 ?side2 ?side3 ?side4 ?side5 ?side6 ?side7 ?side8 A3.out).mono ?_); (case side1 => exact Kd.C_u (Kd.C_below HR0_5.out HB.out)); (case side2 => exact HC0_5.out); (case side3 => exact Kd.C_u (Kd.C_below HR0_6.out HB.out)); (case side4 => exact HC0_6.out); (case side5 => exact Kd.C_u (Kd.C_below HR0_7.out HB.out)); (case side6 => exact HC0_7.out); (case side7 => exact Kd.C_u (Kd.C_below HR0_8.out HB.out)); (case side8 => exact HC0_8.out); rintro e w38 ⟨v103, rfl, ho0, hb⟩; refine ⟨_, rfl, ?_⟩; have HO104 := Aside0.mk (Kd.R_lower ho0 (below_size (by repeat (first | (with_reducible first | exact HB.out | refine below_q ?_ | refine below_set ?_ GE101.out) | exact HB.out)))); replace BK101 := Aside0.mk (blk_ub BK101.out hb); replace HB := Aside0.mk (below_step (by repeat (first | (with_reducible first | exact HB.out | refine below_q ?_ | refine below_set ?_ GE101.out) | exact HB.out)) hb); (try clear hb); (try clear hb2); (try clear hk); (try clear hi); (try clear ho0); clear A3))
 go_ret2
 exact ⟨by first | rfl | (simp [errW_none, errW_some] <;> rfl) | (simp [*, errW_none, errW_some] <;> rfl), by repeat (first | (with_reducible first | exact HB.out | apply below_alloc | apply pw_below_drewN | apply below_drew1 | refine below_set ?_ GE101.out) | exact HB.out)⟩
end Go.Proofs.Ytooiccpmngmapaa.P
namespace Go.Proofs.Ytooiccpmngmapaa.P
open Go.RowKit Go.Shelf Go.Proofs.YtooiccpmngmapaaW.PrintWords Go.Proofs.YtooiccpmngmapaaW.PrintLast Go.Proofs.YtooiccpmngmapaaW.PrintMore
attribute [local go_sem] Oper.semAt_some
def nearI (v : Int) : Int := ((FloatKind.f64.nearest v : Nat) : Int)
theorem near_u (v : Int) (w : World) : Calls Try.prog 137 #[.int .u64 v] w fun e w' => e = .returned (.int .u64 (nearI v)) ∧ Below w.heap.size w w' := (fhist_Float.calls v _ w rfl).mono fun e w1 h => ⟨h.1, h.2.below⟩
def floatsCR (l : List Int) : List Int := ((sumsFrom 0 l).getD []).map nearI
def wfFloats (l : List Int) : Prop := (∀ x ∈ l, i64 x) ∧ l.length ≤ 65536 ∧ ∀ x ∈ (sumsFrom 0 l).getD [], 0 ≤ x ∧ x ≤ 9223372036854775807
instance (l : List Int) : Decidable (wfFloats l) := by unfold wfFloats; infer_instance
def fhist_floats.f (l : List Int) : Option (List Int) := if wfFloats l then some (floatsCR l) else none
theorem u64_id {x : Int} (h0 : 0 ≤ x) (h1 : x ≤ 9223372036854775807) : IntKind.u64.wrap x = x := by
  simp only [IntKind.wrap]
  simp [IntKind.signed, IntKind.bits]
  omega
theorem own_base_' {W : World} {base size n : Nat} {e : TypeId} {v : Value} {xs : List Value} (h : W.ownsRow base e size v n xs) : ∀ k, v.ownBlock = some k → base ≤ k := fun k hk => own_base h k hk
theorem sums_len (l : List Int) : ∀ (a : Int) (o : List Int), sumsFrom a l = some o → o.length = l.length := by
  induction l with
  | nil => intro a o h; simp [sumsFrom] at h; subst h; rfl
  | cons x t ih =>
    intro a o h
    simp only [sumsFrom] at h
    split at h
    · cases hs : sumsFrom (a + x) t with
      | none => rw [hs] at h; simp at h
      | some o' => rw [hs] at h; simp at h; subst h; simp [ih _ _ hs]
    · cases h
theorem abs_run (l : List Int) (hw : wfFloats l) : ∃ e : Int, pairs_Absolute.f (l.length + 1) l = some ((sumsFrom 0 l).getD [], e) := by
  rw [absolute_eq l hw.1 (by have := hw.2.1; omega) _ (by omega)]
  cases sumsFrom 0 l with
  | none => exact ⟨28, rfl⟩
  | some o => exact ⟨0, rfl⟩
set_option maxRecDepth 100000 in
set_option maxHeartbeats 4000000 in
theorem fhist_floats.calls (A0 : Option Addr) (c0 : Nat) (l0 : List Int) (r : List Int) (w : World) (hr0 : Kd.C (Kd.int .i64) w A0 l0.length l0) (hc0 : l0.length ≤ c0) (h : fhist_floats.f l0 = some r) :
    Calls Try.prog 139 #[.slice A0 l0.length c0] w fun e w' => ∃ v0_ : Value, e = .returned v0_ ∧ Kd.R (Kd.int .u64) 25 w' w.heap.size (fun _ => True) v0_ r ∧ Below w.heap.size w w' := by
  unfold fhist_floats.f at h
  by_cases hwf : wfFloats l0
  rotate_left
  · rw [if_neg hwf] at h; cases h
  rw [if_pos hwf] at h
  cases h
  obtain ⟨er, habs⟩ := abs_run l0 hwf
  have hlen : ((sumsFrom 0 l0).getD []).length ≤ 65536 := by
    cases hs : sumsFrom 0 l0 with
    | none => simp
    | some o => simp [sums_len _ _ _ hs]; exact hwf.2.1
  have hnum := hwf.2.2
  unfold floatsCR
  generalize (sumsFrom 0 l0).getD [] = l at *
  refine (callsIn_wide (n := 4)).1 ?_
  have hf1 : Fence.wide.fn 166 := trivial
  have hf2 : Fence.wide.fn 137 := trivial
  have HAb := Aside0.mk (fun w hr0 => pairs_Absolute.calls _ A0 c0 l0 _ _ w hr0 hc0 habs)
  have HR := Aside0.mk hr0
  obtain ⟨i0, hi, hz0, hz1, hz2⟩ := info_parts info25
  have hmk : ∀ W : World, (Instr.makeSlice 53 (.int .i64 0) (.int .i64 l.length)).run Try.prog W = .ok (.slice (some ⟨W.heap.size, 0, none⟩) 0 l.length) (W.alloc (.cells (madeCells #[Value.int .u64 0] (l.length * i0.size)) 25)) := fun W => by
    have := run_make (P := Try.prog) W 53 25 i0 (.int .u64 0) Try.underlying53 hi hz0 .i64 .i64 0 l.length (by omega) (by omega) (by rw [hz2]; omega) (by omega)
    simpa [Value.cells] using this
  have HM := Aside0.mk hlen
  have HN := Aside0.mk hnum
  clear hr0 hlen hnum habs hwf
  refine callsIn_of_wp Try.func139 rfl trivial ?_ rfl
  simp only [Try.ntmps139, List.size_toArray, List.length_cons, List.length_nil, Nat.reduceAdd, Nat.reduceSub, Array.replicate_succ, Array.replicate_zero, List.push_toArray, List.append_toArray, List.nil_append, List.cons_append]
  gi_wp2_with (gi_at_call 166; refine (callsIn_wide.2 (HAb.out _ HR.out)).mono ?_; rintro e w1 ⟨v1, rfl, hR1, hb⟩; obtain ⟨A1, c1, rfl, hc1, hC1⟩ := Kd.R_reads hR1; have HC := Aside0.mk hC1; have HB1 := Aside0.mk hb; clear hb hR1 hC1)
  clear hmk
  gi_loopw [5, 18] (fun s5 s18 wx => ∃ i : Nat, i ≤ l.length ∧ s18 = .int .i64 i ∧ Aside0 (wx.ownsRow w1.heap.size 25 1 s5 i (((l.take i).map nearI).map (Value.int .u64))) ∧ Aside0 (Below w1.heap.size w1 wx)) (fun _ s18 _ => l.length - (intOf s18).toNat)
  case atStart =>
    refine ⟨0, Nat.zero_le _, rfl, ⟨?_⟩, ⟨below_alloc (Below.refl _ _) _⟩⟩
    have := World.ownsRow_made (base := w1.heap.size) (e := 25) (size := 1) w1 (madeCells #[Value.int .u64 0] (l.length * i0.size)) l.length (Nat.le_refl _) (by have := HM.out; unfold maxLen; omega) (by rw [size_madeCells, hz1])
    simpa [hz1] using this
  case round =>
    obtain ⟨i, hil, rfl, HO, HB⟩ := hrel
    by_cases hlt : i < l.length
    · have hlti : (i : Int) < (l.length : Int) := by omega
      have hi0 : (0 : Int) ≤ (i : Int) := by omega
      obtain ⟨ad, e1, hx0⟩ := Kd.at_int (Kd.C_below HC.out HB.out) (i : Int) hi0 hlti
      rw [rd_at hlt, Int.toNat_natCast] at hx0
      subst e1
      have HS := Aside0.mk (List.take_succ_eq_append_getElem hlt)
      have hx := HN.out l[i] (List.getElem_mem hlt)
      have hcv := u64_id hx.1 hx.2
      have FL := Aside0.mk (near_u l[i])
      have hi4 : i < 65536 := by have := HM.out; omega
      clear hx
      generalize l[i] = x at hx0 HS hcv FL
      generalize hwx : nearI x = nv at FL
      have HWX := Aside0.mk hwx
      clear hwx
      gi_wp2_with (first | (gi_at_call 137; refine (callsIn_wide.2 (FL.out _)).mono ?_; rintro e w2 ⟨rfl, hb⟩; have HO2 := Aside0.mk (HO.out.kept (grown_of_below hb none) (Classical.em _)); have HB2 := Aside0.mk (below_then HB.out HB.out.size hb); clear hb) | (gi_at_builtin; refine wpListIn_append_own _ rfl _ _ 53 rfl w1.heap.size 25 i0 (.int .u64 0) 1 8 Try.underlying53 hi hz0 hz1 hz2 rfl (by decide) _ _ _ rfl (HO2.out.alloc _) ⟨w2.heap.size, 0, none⟩ 1 1 [.int .u64 nv] rfl rfl (cell_one_new _ _ _) (by simp [Value.oneCell']) (by unfold maxLen; omega) (by omega) (by have := HB2.out.size; simp; omega) ?_; intro v' w3 hown' hgrow _; have HO3 := Aside0.mk hown'; have HB3 := Aside0.mk (pw_below_grown (below_alloc HB2.out _) _ (by have := HB2.out.size; simp; omega) hgrow (own_base_' HO2.out)); clear hown' hgrow))
      go_roundw
      case rel =>
        refine ⟨i + 1, by omega, by go_num, ⟨?_⟩, HB3⟩
        have := HO3.out
        rw [HS.out, List.map_append, List.map_append, List.map_cons, List.map_nil, HWX.out]
        exact this
      case measure => simp [intOf]; omega
    · obtain rfl : i = l.length := by omega
      have hlti : ¬ (l.length : Int) < (l.length : Int) := by omega
      clear hlt
      gi_wp2
      refine bodyPost_ret (results_tmp rfl _ _ _) rfl ?_
      have hl : l.length = (l.map nearI).length := (List.length_map ..).symm
      have ho := HO.out
      rw [List.take_length] at ho
      exact ⟨_, rfl, Kd.R_lower (Kd.R_of_own (enc := Value.int .u64) (h1 := fun _ => rfl) (hl ▸ ho) (fun _ _ => trivial)) HB1.out.size, below_then HB1.out HB1.out.size HB.out⟩
end Go.Proofs.Ytooiccpmngmapaa.P
namespace Go.Proofs.Ytooiccpmngmapaa.P
open Go.RowKit Go.Proofs.YtooiccpmngmapaaW.PrintWords Go.Proofs.YtooiccpmngmapaaW.PrintLast Go.Proofs.YtooiccpmngmapaaW.PrintMore
attribute [local go_sem] max2_int min2_int max_two min_two max_three min_three max_four min_four
def fhist_From.f (a0_0 : Int) (a0_1 : Int) (a0_2 : Int) (a0_3 : Int) (a0_4 : Int) (l0_5 : List (S113)) (l0_6 : List (S113)) (l0_7 : List Int) (l0_8 : List Int) : Option (Int × Int × Int × Int × Int × (List (S113)) × (List (S113)) × List Int × List Int × Int) := (hist_Check.f a0_0 a0_1 a0_2 a0_3 a0_4 l0_5 l0_6 l0_7 l0_8).bind fun t103 => (if t103 = 0 then ((fhist_Float.f a0_2).bind fun t104 => ((fhist_Float.f a0_3).bind fun t105 => ((slices_Clone_span.f l0_5).bind fun t106 => ((slices_Clone_span.f l0_6).bind fun t109 => ((fhist_floats.f l0_7).bind fun t112 => ((fhist_floats.f l0_8).bind fun t115 => (some (a0_0, a0_1, t104, t105, a0_4, t106, t109, t112, t115, 0)))))))) else (some (0, 0, 0, 0, 0, ([] : List (S113)), ([] : List (S113)), ([] : List Int), ([] : List Int), t103)))
def fhist_From.T4 : Bool × List (List Nat × List Nat) := (true, [([], []), ([0], [0]), ([], []), ([2], [2]), ([], []), ([4], [4]), ([5], [5]), ([], []), ([7], [7]), ([8, 6], [8]), ([], []), ([10], [10]), ([], []), ([12], [12]), ([13, 9], [13]), ([], []), ([15], [15]), ([16, 14], [16]), ([], []), ([18], [18]), ([19, 17], [19]), ([], []), ([21], [21]), ([22, 20], [22]), ([1, 3, 6, 9, 11, 14, 17, 20, 23], [1, 3, 6, 9, 11, 14, 17, 20, 23]), ([24, 23, 0, 1, 2, 3, 4, 5, 6, 7, 8, 9, 10, 11, 12, 13, 14, 15, 16, 17, 18, 19, 20, 21, 22, 23, 24], [24]), ([25, 0, 1, 2, 3, 4, 5, 6, 7, 8, 9, 10, 11, 12, 13, 14, 15, 16, 17, 18, 19, 20, 21, 22, 23, 24, 25], [])])
def fhist_From.B4 : List Nat := [0, 1, 0, 4, 0, 16, 48, 0, 128, 496, 0, 1024, 0, 4096, 13296, 0, 32768, 127984, 0, 262144, 1045488, 0, 2097152, 8385520, 16777215, 33554431, 67108863]
theorem fhist_From.tab4 : rtab .any (opsOf Try.f74 4) = fhist_From.T4 := by kernel_rfl
theorem fhist_From.bits4 : waitsOk fhist_From.T4.2 fhist_From.B4 = true := by kernel_rfl
set_option maxHeartbeats 8000000 in
set_option maxRecDepth 100000 in
theorem fhist_From.calls (a0_0 : Int) (a0_1 : Int) (a0_2 : Int) (a0_3 : Int) (a0_4 : Int) (A0_5 : Option Addr) (c0_5 : Nat) (l0_5 : List (S113)) (A0_6 : Option Addr) (c0_6 : Nat) (l0_6 : List (S113)) (A0_7 : Option Addr) (c0_7 : Nat) (l0_7 : List Int) (A0_8 : Option Addr) (c0_8 : Nat) (l0_8 : List Int) (r1 : Int) (r2 : Int) (r3 : Int) (r4 : Int) (r5 : Int) (r6 : List (S113)) (r7 : List (S113)) (r8 : List Int) (r9 : List Int) (r10 : Int) (w : World) (hr0_5 : Kd.C k113 w A0_5 l0_5.length l0_5) (hc0_5 : l0_5.length ≤ c0_5) (hr0_6 : Kd.C k113 w A0_6 l0_6.length l0_6) (hc0_6 : l0_6.length ≤ c0_6) (hr0_7 : Kd.C (Kd.int .i64) w A0_7 l0_7.length l0_7) (hc0_7 : l0_7.length ≤ c0_7) (hr0_8 : Kd.C (Kd.int .i64) w A0_8 l0_8.length l0_8) (hc0_8 : l0_8.length ≤ c0_8) (h : fhist_From.f a0_0 a0_1 a0_2 a0_3 a0_4 l0_5 l0_6 l0_7 l0_8 = some (r1, r2, r3, r4, r5, r6, r7, r8, r9, r10)) :
  Calls Try.prog 74 #[.agg #[.int .i64 a0_0, .int .u64 a0_1, .int .u64 a0_2, .int .u64 a0_3, .int .u64 a0_4, .slice A0_5 l0_5.length c0_5, .slice A0_6 l0_6.length c0_6, .slice A0_7 l0_7.length c0_7, .slice A0_8 l0_8.length c0_8]] w fun e w' => ∃ v5_ v6_ v7_ v8_ : Value, e = .returned (.tuple #[.agg #[.int .i64 r1, .int .u64 r2, .int .u64 r3, .int .u64 r4, .int .u64 r5, v5_, v6_, v7_, v8_], .int .i64 r10]) ∧ Kd.R k113 113 w' w.heap.size (fun k_ => some k_ ≠ (v6_ : Value).ownBlock) v5_ r6 ∧ Kd.R k113 113 w' w.heap.size (fun k_ => some k_ ≠ (v5_ : Value).ownBlock) v6_ r7 ∧ Kd.R (Kd.int .u64) 25 w' w.heap.size (fun k_ => some k_ ≠ (v8_ : Value).ownBlock) v7_ r8 ∧ Kd.R (Kd.int .u64) 25 w' w.heap.size (fun k_ => some k_ ≠ (v7_ : Value).ownBlock) v8_ r9 ∧ Below w.heap.size w w' := by
 have hu29 := Try.underlying29
 have hu55 := Try.underlying55
 have HR0_5 := Aside0.mk hr0_5
 have HC0_5 := Aside0.mk hc0_5
 clear hr0_5 hc0_5
 have HR0_6 := Aside0.mk hr0_6
 have HC0_6 := Aside0.mk hc0_6
 clear hr0_6 hc0_6
 have HR0_7 := Aside0.mk hr0_7
 have HC0_7 := Aside0.mk hc0_7
 clear hr0_7 hc0_7
 have HR0_8 := Aside0.mk hr0_8
 have HC0_8 := Aside0.mk hc0_8
 clear hr0_8 hc0_8
 have HB := Aside0.mk (Below.refl w.heap.size w)
 have H : ((hist_Check.f a0_0 a0_1 a0_2 a0_3 a0_4 l0_5 l0_6 l0_7 l0_8).bind fun t103 => (if t103 = 0 then ((fhist_Float.f a0_2).bind fun t104 => ((fhist_Float.f a0_3).bind fun t105 => ((slices_Clone_span.f l0_5).bind fun t106 => ((slices_Clone_span.f l0_6).bind fun t109 => ((fhist_floats.f l0_7).bind fun t112 => ((fhist_floats.f l0_8).bind fun t115 => (some (a0_0, a0_1, t104, t105, a0_4, t106, t109, t112, t115, 0)))))))) else (some (0, 0, 0, 0, 0, ([] : List (S113)), ([] : List (S113)), ([] : List Int), ([] : List Int), t103)))) = some (r1, r2, r3, r4, r5, r6, r7, r8, r9, r10) := h
 clear h
 replace H := Option.bind_eq_some_iff.mp H
 obtain ⟨t103, A20, H⟩ := H
 replace H : (if t103 = 0 then ((fhist_Float.f a0_2).bind fun t104 => ((fhist_Float.f a0_3).bind fun t105 => ((slices_Clone_span.f l0_5).bind fun t106 => ((slices_Clone_span.f l0_6).bind fun t109 => ((fhist_floats.f l0_7).bind fun t112 => ((fhist_floats.f l0_8).bind fun t115 => (some (a0_0, a0_1, t104, t105, a0_4, t106, t109, t112, t115, 0)))))))) else (some (0, 0, 0, 0, 0, ([] : List (S113)), ([] : List (S113)), ([] : List Int), ([] : List Int), t103))) = some (r1, r2, r3, r4, r5, r6, r7, r8, r9, r10) := H
 have A2 := Aside0.mk A20
 clear A20
 by_cases c3 : t103 = 0
 ·rw [if_pos c3] at H
  have c3b0 : (t103 == 0) = true := beq_iff_eq.mpr c3
  have c3b1 : (t103 != 0) = false := bne_eq_false_iff_eq.mpr c3
  clear c3
  replace H := Option.bind_eq_some_iff.mp H
  obtain ⟨t104, A40, H⟩ := H
  replace H : ((fhist_Float.f a0_3).bind fun t105 => ((slices_Clone_span.f l0_5).bind fun t106 => ((slices_Clone_span.f l0_6).bind fun t109 => ((fhist_floats.f l0_7).bind fun t112 => ((fhist_floats.f l0_8).bind fun t115 => (some (a0_0, a0_1, t104, t105, a0_4, t106, t109, t112, t115, 0))))))) = some (r1, r2, r3, r4, r5, r6, r7, r8, r9, r10) := H
  have A4 := Aside0.mk A40
  clear A40
  replace H := Option.bind_eq_some_iff.mp H
  obtain ⟨t105, A50, H⟩ := H
  replace H : ((slices_Clone_span.f l0_5).bind fun t106 => ((slices_Clone_span.f l0_6).bind fun t109 => ((fhist_floats.f l0_7).bind fun t112 => ((fhist_floats.f l0_8).bind fun t115 => (some (a0_0, a0_1, t104, t105, a0_4, t106, t109, t112, t115, 0)))))) = some (r1, r2, r3, r4, r5, r6, r7, r8, r9, r10) := H
  have A5 := Aside0.mk A50
  clear A50
  replace H := Option.bind_eq_some_iff.mp H
  obtain ⟨t106, A60, H⟩ := H
  replace H : ((slices_Clone_span.f l0_6).bind fun t109 => ((fhist_floats.f l0_7).bind fun t112 => ((fhist_floats.f l0_8).bind fun t115 => (some (a0_0, a0_1, t104, t105, a0_4, t106, t109, t112, t115, 0))))) = some (r1, r2, r3, r4, r5, r6, r7, r8, r9, r10) := H
  have A6 := Aside0.mk A60
  clear A60
  replace H := Option.bind_eq_some_iff.mp H
  obtain ⟨t109, A70, H⟩ := H
  replace H : ((fhist_floats.f l0_7).bind fun t112 => ((fhist_floats.f l0_8).bind fun t115 => (some (a0_0, a0_1, t104, t105, a0_4, t106, t109, t112, t115, 0)))) = some (r1, r2, r3, r4, r5, r6, r7, r8, r9, r10) := H
  have A7 := Aside0.mk A70
  clear A70
  replace H := Option.bind_eq_some_iff.mp H
  obtain ⟨t112, A80, H⟩ := H
  replace H : ((fhist_floats.f l0_8).bind fun t115 => (some (a0_0, a0_1, t104, t105, a0_4, t106, t109, t112, t115, 0))) = some (r1, r2, r3, r4, r5, r6, r7, r8, r9, r10) := H
  have A8 := Aside0.mk A80
  clear A80
  replace H := Option.bind_eq_some_iff.mp H
  obtain ⟨t115, A90, H⟩ := H
  replace H : (some (a0_0, a0_1, t104, t105, a0_4, t106, t109, t112, t115, 0)) = some (r1, r2, r3, r4, r5, r6, r7, r8, r9, r10) := H
  have A9 := Aside0.mk A90
  clear A90
  simp only [Option.some.injEq, Prod.mk.injEq] at H
  obtain ⟨rfl, rfl, rfl, rfl, rfl, rfl, rfl, rfl, rfl, rfl⟩ := H
  go_enter Try.func74, Try.ntmps74
  try go_wp2_with (first | ((with_reducible refine gate_dst (N := 1) rfl ?_); refine box_event ?hg (N := 1) ?hd (cs := #[.int .i64 a0_0, .int .u64 a0_1, .int .u64 a0_2, .int .u64 a0_3, .int .u64 a0_4, .slice A0_5 l0_5.length c0_5, .slice A0_6 l0_6.length c0_6, .slice A0_7 l0_7.length c0_7, .slice A0_8 l0_8.length c0_8]) (t := 29) ?hr ?_; (case hd => rfl); (case hg => rfl); (case hr => first | (go_simp; done) | (go_simp; rfl)); intro gb101 hg w10 hbox hb; have BK101 := Aside0.mk (hbox); have GW101 := Aside0.mk ((by rw [hg]; exact (below_size (below_u HB.out)) : w.heap.size ≤ gb101)); have GE101 := Aside0.mk ((by rw [hg]; exact (below_size (below_u HB.out)) : w.heap.size ≤ gb101)); replace HB := Aside0.mk (below_step (below_u HB.out) hb); clear hb hbox hg) | ((with_reducible refine gate_dst (N := 2) rfl ?_); refine box_event ?hg (N := 2) ?hd (cs := #[.int .i64 0, .int .u64 0, .int .u64 0, .int .u64 0, .int .u64 0, .slice none 0 0, .slice none 0 0, .slice none 0 0, .slice none 0 0]) (t := 55) ?hr ?_; (case hd => rfl); (case hg => rfl); (case hr => first | (go_simp; done) | (go_simp; rfl)); intro gb102 hg w11 hbox hb; have BK102 := Aside0.mk (hbox); have GW102 := Aside0.mk ((by rw [hg]; exact (below_size (by repeat (first | (with_reducible first | exact HB.out | apply below_alloc | apply pw_below_drewN | apply below_drew1 | refine below_set ?_ GE101.out) | exact HB.out))) : w.heap.size ≤ gb102)); have GE102 := Aside0.mk ((by rw [hg]; exact (below_size (by repeat (first | (with_reducible first | exact HB.out | apply below_alloc | apply pw_below_drewN | apply below_drew1 | refine below_set ?_ GE101.out) | exact HB.out))) : w.heap.size ≤ gb102)); have NB101_102 := Aside0.mk ((by rw [hg]; exact Nat.ne_of_lt (blk_lt (g := gb101) (o := .cells #[.int .i64 a0_0, .int .u64 a0_1, .int .u64 a0_2, .int .u64 a0_3, .int .u64 a0_4, .slice A0_5 l0_5.length c0_5, .slice A0_6 l0_6.length c0_6, .slice A0_7 l0_7.length c0_7, .slice A0_8 l0_8.length c0_8] 29 (0, 0)) (blk_u BK101.out)) : gb101 ≠ gb102)); have NB102_101 := Aside0.mk ((by rw [hg]; exact Nat.ne_of_gt (blk_lt (g := gb101) (o := .cells #[.int .i64 a0_0, .int .u64 a0_1, .int .u64 a0_2, .int .u64 a0_3, .int .u64 a0_4, .slice A0_5 l0_5.length c0_5, .slice A0_6 l0_6.length c0_6, .slice A0_7 l0_7.length c0_7, .slice A0_8 l0_8.length c0_8] 29 (0, 0)) (blk_u BK101.out)) : gb102 ≠ gb101)); replace BK101 := Aside0.mk (blk_ub BK101.out hb); replace HB := Aside0.mk (below_step (by repeat (first | (with_reducible first | exact HB.out | apply below_alloc | apply pw_below_drewN | apply below_drew1 | refine below_set ?_ GE101.out) | exact HB.out)) hb); clear hb hbox hg; have hnb12 := NB101_102.out; have hnc12 := NB102_101.out; have hcz13_0 := blk_cell BK101.out; have hfz13_0 := blk_frozen BK101.out) | ((with_reducible refine gate_callee (f := 31) rfl ?_); refine goesL_ (some 6) rfl rfl Try.func31 (by kernel_rfl) rfl #[.agg #[.int .i64 a0_0, .int .u64 a0_1, .int .u64 a0_2, .int .u64 a0_3, .int .u64 a0_4, .slice A0_5 l0_5.length c0_5, .slice A0_6 l0_6.length c0_6, .slice A0_7 l0_7.length c0_7, .slice A0_8 l0_8.length c0_8]] rfl (by (try simp only [List.map_toArray, List.map_cons, List.map_nil]); first | done | rfl | (simp only [List.length_drop, List.length_take]; rfl)) ?_; (with_reducible refine (hist_Check.calls a0_0 a0_1 a0_2 a0_3 a0_4 _ _ l0_5 _ _ l0_6 _ _ l0_7 _ _ l0_8 t103 _ ?side1 ?side2 ?side3 ?side4 ?side5 ?side6 ?side7 ?side8 A2.out).mono ?_); (case side1 => exact Kd.C_u (Kd.C_below HR0_5.out HB.out)); (case side2 => exact HC0_5.out); (case side3 => exact Kd.C_u (Kd.C_below HR0_6.out HB.out)); (case side4 => exact HC0_6.out); (case side5 => exact Kd.C_u (Kd.C_below HR0_7.out HB.out)); (case side6 => exact HC0_7.out); (case side7 => exact Kd.C_u (Kd.C_below HR0_8.out HB.out)); (case side8 => exact HC0_8.out); rintro e w14 ⟨rfl, hb⟩; refine ⟨_, rfl, ?_⟩; replace BK101 := Aside0.mk (blk_ub BK101.out hb); replace BK102 := Aside0.mk (blk_ub BK102.out hb); replace HB := Aside0.mk (below_step (by repeat (first | (with_reducible first | exact HB.out | apply below_alloc | apply pw_below_drewN | apply below_drew1 | refine below_set ?_ GE101.out | refine below_set ?_ GE102.out) | exact HB.out)) hb); (try clear hb); (try clear hb2); (try clear hk); (try clear hi); clear A2))
  have n0_ := Aside0.mk (blk_drew BK101.out)
  have n1_ := Aside0.mk (blk_drew BK102.out)
  have n2_ := Aside0.mk (below_drew1 HB.out)
  clear BK101
  clear BK102
  clear HB
  have BK101 := n0_
  have BK102 := n1_
  have HB := n2_
  clear n0_ n1_ n2_
  refine start_ (n := 27) (S := fun w' => w'.cell? ⟨gb101, 0, none⟩ = some (.int .i64 a0_0) ∧ w'.cell? ⟨gb101, 1, none⟩ = some (.int .u64 a0_1) ∧ w'.cell? ⟨gb101, 2, none⟩ = some (.int .u64 a0_2) ∧ w'.cell? ⟨gb101, 3, none⟩ = some (.int .u64 a0_3) ∧ w'.cell? ⟨gb101, 4, none⟩ = some (.int .u64 a0_4) ∧ w'.cell? ⟨gb101, 5, none⟩ = some (.slice A0_5 l0_5.length c0_5) ∧ w'.cell? ⟨gb101, 6, none⟩ = some (.slice A0_6 l0_6.length c0_6) ∧ w'.cell? ⟨gb101, 7, none⟩ = some (.slice A0_7 l0_7.length c0_7) ∧ w'.cell? ⟨gb101, 8, none⟩ = some (.slice A0_8 l0_8.length c0_8)) (ds := []) #[false, false, false, false, false, false, false, false, false, false, false, false, false, false, false, false, false, false, false, false, false, false, false, false, false, false, false] (by kernel_rfl) rfl rfl ⟨(blk_cell BK101.out 0).trans rfl, (blk_cell BK101.out 1).trans rfl, (blk_cell BK101.out 2).trans rfl, (blk_cell BK101.out 3).trans rfl, (blk_cell BK101.out 4).trans rfl, (blk_cell BK101.out 5).trans rfl, (blk_cell BK101.out 6).trans rfl, (blk_cell BK101.out 7).trans rfl, (blk_cell BK101.out 8).trans rfl⟩ (fun hHeld => ?_); refine with_tabW fhist_From.tab4 fhist_From.bits4 (fun HT_ HW_ => ?_)
  generalize w14.drew = w15 at BK101 BK102 HB hHeld ⊢
  refine pure_ (i := 0) (N := some 11) (v := ?_) (a' := ?_) #[true, false, false, false, false, false, false, false, false, false, false, false, false, false, false, false, false, false, false, false, false, false, false, false, false, false, false] rfl rfl (any_of HT_.out (by kernel_rfl)) (fun _ _ _ h => h) (Or.inl ⟨by rfl, ?_⟩) ?_ ?_
  rotate_left
  ·intro w'
   go_simp
   with_reducible rfl
  rotate_left
  ·simp only [Act.put, List.setIfInBounds_toArray, List.set_cons_zero, List.set_cons_succ, i64_w, i32_w]
   rfl
  refine pure_ (i := 2) (N := some 13) (v := ?_) (a' := ?_) #[true, false, true, false, false, false, false, false, false, false, false, false, false, false, false, false, false, false, false, false, false, false, false, false, false, false, false] rfl rfl (any_of HT_.out (by kernel_rfl)) (fun _ _ _ h => h) (Or.inl ⟨by rfl, ?_⟩) ?_ ?_
  rotate_left
  ·intro w'
   go_simp
   with_reducible rfl
  rotate_left
  ·simp only [Act.put, List.setIfInBounds_toArray, List.set_cons_zero, List.set_cons_succ, i64_w, i32_w]
   rfl
  refine pure_ (i := 4) (N := some 15) (v := ?_) (a' := ?_) #[true, false, true, false, true, false, false, false, false, false, false, false, false, false, false, false, false, false, false, false, false, false, false, false, false, false, false] rfl rfl (any_of HT_.out (by kernel_rfl)) (fun _ _ _ h => h) (Or.inl ⟨by rfl, ?_⟩) ?_ ?_
  rotate_left
  ·intro w'
   go_simp
   with_reducible rfl
  rotate_left
  ·simp only [Act.put, List.setIfInBounds_toArray, List.set_cons_zero, List.set_cons_succ, i64_w, i32_w]
   rfl
  refine pure_ (i := 7) (N := some 18) (v := ?_) (a' := ?_) #[true, false, true, false, true, false, false, true, false, false, false, false, false, false, false, false, false, false, false, false, false, false, false, false, false, false, false] rfl rfl (any_of HT_.out (by kernel_rfl)) (fun _ _ _ h => h) (Or.inl ⟨by rfl, ?_⟩) ?_ ?_
  rotate_left
  ·intro w'
   go_simp
   with_reducible rfl
  rotate_left
  ·simp only [Act.put, List.setIfInBounds_toArray, List.set_cons_zero, List.set_cons_succ, i64_w, i32_w]
   rfl
  refine pure_ (i := 10) (N := some 21) (v := ?_) (a' := ?_) #[true, false, true, false, true, false, false, true, false, false, true, false, false, false, false, false, false, false, false, false, false, false, false, false, false, false, false] rfl rfl (any_of HT_.out (by kernel_rfl)) (fun _ _ _ h => h) (Or.inl ⟨by rfl, ?_⟩) ?_ ?_
  rotate_left
  ·intro w'
   go_simp
   with_reducible rfl
  rotate_left
  ·simp only [Act.put, List.setIfInBounds_toArray, List.set_cons_zero, List.set_cons_succ, i64_w, i32_w]
   rfl
  refine pure_ (i := 12) (N := some 23) (v := ?_) (a' := ?_) #[true, false, true, false, true, false, false, true, false, false, true, false, true, false, false, false, false, false, false, false, false, false, false, false, false, false, false] rfl rfl (any_of HT_.out (by kernel_rfl)) (fun _ _ _ h => h) (Or.inl ⟨by rfl, ?_⟩) ?_ ?_
  rotate_left
  ·intro w'
   go_simp
   with_reducible rfl
  rotate_left
  ·simp only [Act.put, List.setIfInBounds_toArray, List.set_cons_zero, List.set_cons_succ, i64_w, i32_w]
   rfl
  refine pure_ (i := 15) (N := some 26) (v := ?_) (a' := ?_) #[true, false, true, false, true, false, false, true, false, false, true, false, true, false, false, true, false, false, false, false, false, false, false, false, false, false, false] rfl rfl (any_of HT_.out (by kernel_rfl)) (fun _ _ _ h => h) (Or.inl ⟨by rfl, ?_⟩) ?_ ?_
  rotate_left
  ·intro w'
   go_simp
   with_reducible rfl
  rotate_left
  ·simp only [Act.put, List.setIfInBounds_toArray, List.set_cons_zero, List.set_cons_succ, i64_w, i32_w]
   rfl
  refine pure_ (i := 18) (N := some 29) (v := ?_) (a' := ?_) #[true, false, true, false, true, false, false, true, false, false, true, false, true, false, false, true, false, false, true, false, false, false, false, false, false, false, false] rfl rfl (any_of HT_.out (by kernel_rfl)) (fun _ _ _ h => h) (Or.inl ⟨by rfl, ?_⟩) ?_ ?_
  rotate_left
  ·intro w'
   go_simp
   with_reducible rfl
  rotate_left
  ·simp only [Act.put, List.setIfInBounds_toArray, List.set_cons_zero, List.set_cons_succ, i64_w, i32_w]
   rfl
  refine pure_ (i := 21) (N := some 32) (v := ?_) (a' := ?_) #[true, false, true, false, true, false, false, true, false, false, true, false, true, false, false, true, false, false, true, false, false, true, false, false, false, false, false] rfl rfl (any_of HT_.out (by kernel_rfl)) (fun _ _ _ h => h) (Or.inl ⟨by rfl, ?_⟩) ?_ ?_
  rotate_left
  ·intro w'
   go_simp
   with_reducible rfl
  rotate_left
  ·simp only [Act.put, List.setIfInBounds_toArray, List.set_cons_zero, List.set_cons_succ, i64_w, i32_w]
   rfl
  refine take_ (i := 1) (N := some 12) (v := ?_) (a' := ?_) #[true, true, true, false, true, false, false, true, false, false, true, false, true, false, false, true, false, false, true, false, false, true, false, false, false, false, false] rfl rfl (take_ofW HT_.out HW_.out (by kernel_rfl)) (fun _ _ _ h => h) (Or.inl ⟨by rfl, ?_⟩) hHeld ?_ ?_
  rotate_left
  ·rintro w' ⟨s0, s1, s2, s3, s4, s5, s6, s7, s8⟩
   go_simp
   with_reducible rfl
  rotate_left
  ·simp only [Act.put, List.setIfInBounds_toArray, List.set_cons_zero, List.set_cons_succ, i64_w, i32_w]
   rfl
  refine take_ (i := 3) (N := some 14) (v := ?_) (a' := ?_) #[true, true, true, true, true, false, false, true, false, false, true, false, true, false, false, true, false, false, true, false, false, true, false, false, false, false, false] rfl rfl (take_ofW HT_.out HW_.out (by kernel_rfl)) (fun _ _ _ h => h) (Or.inl ⟨by rfl, ?_⟩) hHeld ?_ ?_
  rotate_left
  ·rintro w' ⟨s0, s1, s2, s3, s4, s5, s6, s7, s8⟩
   go_simp
   with_reducible rfl
  rotate_left
  ·simp only [Act.put, List.setIfInBounds_toArray, List.set_cons_zero, List.set_cons_succ, i64_w, i32_w]
   rfl
  refine take_ (i := 5) (N := some 16) (v := ?_) (a' := ?_) #[true, true, true, true, true, true, false, true, false, false, true, false, true, false, false, true, false, false, true, false, false, true, false, false, false, false, false] rfl rfl (take_ofW HT_.out HW_.out (by kernel_rfl)) (fun _ _ _ h => h) (Or.inl ⟨by rfl, ?_⟩) hHeld ?_ ?_
  rotate_left
  ·rintro w' ⟨s0, s1, s2, s3, s4, s5, s6, s7, s8⟩
   go_simp
   with_reducible rfl
  rotate_left
  ·simp only [Act.put, List.setIfInBounds_toArray, List.set_cons_zero, List.set_cons_succ, i64_w, i32_w]
   rfl
  refine take_ (i := 8) (N := some 19) (v := ?_) (a' := ?_) #[true, true, true, true, true, true, false, true, true, false, true, false, true, false, false, true, false, false, true, false, false, true, false, false, false, false, false] rfl rfl (take_ofW HT_.out HW_.out (by kernel_rfl)) (fun _ _ _ h => h) (Or.inl ⟨by rfl, ?_⟩) hHeld ?_ ?_
  rotate_left
  ·rintro w' ⟨s0, s1, s2, s3, s4, s5, s6, s7, s8⟩
   go_simp
   with_reducible rfl
  rotate_left
  ·simp only [Act.put, List.setIfInBounds_toArray, List.set_cons_zero, List.set_cons_succ, i64_w, i32_w]
   rfl
  refine take_ (i := 11) (N := some 22) (v := ?_) (a' := ?_) #[true, true, true, true, true, true, false, true, true, false, true, true, true, false, false, true, false, false, true, false, false, true, false, false, false, false, false] rfl rfl (take_ofW HT_.out HW_.out (by kernel_rfl)) (fun _ _ _ h => h) (Or.inl ⟨by rfl, ?_⟩) hHeld ?_ ?_
  rotate_left
  ·rintro w' ⟨s0, s1, s2, s3, s4, s5, s6, s7, s8⟩
   go_simp
   with_reducible rfl
  rotate_left
  ·simp only [Act.put, List.setIfInBounds_toArray, List.set_cons_zero, List.set_cons_succ, i64_w, i32_w]
   rfl
  refine take_ (i := 13) (N := some 24) (v := ?_) (a' := ?_) #[true, true, true, true, true, true, false, true, true, false, true, true, true, true, false, true, false, false, true, false, false, true, false, false, false, false, false] rfl rfl (take_ofW HT_.out HW_.out (by kernel_rfl)) (fun _ _ _ h => h) (Or.inl ⟨by rfl, ?_⟩) hHeld ?_ ?_
  rotate_left
  ·rintro w' ⟨s0, s1, s2, s3, s4, s5, s6, s7, s8⟩
   go_simp
   with_reducible rfl
  rotate_left
  ·simp only [Act.put, List.setIfInBounds_toArray, List.set_cons_zero, List.set_cons_succ, i64_w, i32_w]
   rfl
  refine take_ (i := 16) (N := some 27) (v := ?_) (a' := ?_) #[true, true, true, true, true, true, false, true, true, false, true, true, true, true, false, true, true, false, true, false, false, true, false, false, false, false, false] rfl rfl (take_ofW HT_.out HW_.out (by kernel_rfl)) (fun _ _ _ h => h) (Or.inl ⟨by rfl, ?_⟩) hHeld ?_ ?_
  rotate_left
  ·rintro w' ⟨s0, s1, s2, s3, s4, s5, s6, s7, s8⟩
   go_simp
   with_reducible rfl
  rotate_left
  ·simp only [Act.put, List.setIfInBounds_toArray, List.set_cons_zero, List.set_cons_succ, i64_w, i32_w]
   rfl
  refine take_ (i := 19) (N := some 30) (v := ?_) (a' := ?_) #[true, true, true, true, true, true, false, true, true, false, true, true, true, true, false, true, true, false, true, true, false, true, false, false, false, false, false] rfl rfl (take_ofW HT_.out HW_.out (by kernel_rfl)) (fun _ _ _ h => h) (Or.inl ⟨by rfl, ?_⟩) hHeld ?_ ?_
  rotate_left
  ·rintro w' ⟨s0, s1, s2, s3, s4, s5, s6, s7, s8⟩
   go_simp
   with_reducible rfl
  rotate_left
  ·simp only [Act.put, List.setIfInBounds_toArray, List.set_cons_zero, List.set_cons_succ, i64_w, i32_w]
   rfl
  refine take_ (i := 22) (N := some 33) (v := ?_) (a' := ?_) #[true, true, true, true, true, true, false, true, true, false, true, true, true, true, false, true, true, false, true, true, false, true, true, false, false, false, false] rfl rfl (take_ofW HT_.out HW_.out (by kernel_rfl)) (fun _ _ _ h => h) (Or.inl ⟨by rfl, ?_⟩) hHeld ?_ ?_
  rotate_left
  ·rintro w' ⟨s0, s1, s2, s3, s4, s5, s6, s7, s8⟩
   go_simp
   with_reducible rfl
  rotate_left
  ·simp only [Act.put, List.setIfInBounds_toArray, List.set_cons_zero, List.set_cons_succ, i64_w, i32_w]
   rfl
  refine one_ (i := 6) (N := some 17) #[true, true, true, true, true, true, true, true, true, false, true, true, true, true, false, true, true, false, true, true, false, true, true, false, false, false, false] rfl rfl (one_of HT_.out (by kernel_rfl)) (by decide) (fun K hK => ?_)
  refine goes_ Try.func137 (by kernel_rfl) rfl #[.int .u64 a0_2] (by rfl) rfl rfl (by (try simp only [List.map_toArray, List.map_cons, List.map_nil]); first | done | rfl | (simp only [List.length_drop, List.length_take]; rfl)) ?_
  with_reducible refine (fhist_Float.calls a0_2 t104 _ A4.out).mono ?_
  rintro e w' ⟨rfl, ⟨nd, rfl⟩⟩
  refine ⟨_, rfl, ?_⟩
  refine hK.out _ _ ⟨(blk_cell BK101.out 0).trans rfl, (blk_cell BK101.out 1).trans rfl, (blk_cell BK101.out 2).trans rfl, (blk_cell BK101.out 3).trans rfl, (blk_cell BK101.out 4).trans rfl, (blk_cell BK101.out 5).trans rfl, (blk_cell BK101.out 6).trans rfl, (blk_cell BK101.out 7).trans rfl, (blk_cell BK101.out 8).trans rfl⟩ (fun hHeld => ?_)
  clear hK K
  refine norm_ (a' := ?_) ?_ ?_
  rotate_left
  ·show Act.put _ (some 17) _ = _
   simp only [Act.put, List.setIfInBounds_toArray, List.set_cons_zero, List.set_cons_succ, i64_w, i32_w]
   rfl
  refine one_ (i := 9) (N := some 20) #[true, true, true, true, true, true, true, true, true, true, true, true, true, true, false, true, true, false, true, true, false, true, true, false, false, false, false] rfl rfl (one_of HT_.out (by kernel_rfl)) (by decide) (fun K hK => ?_)
  refine goes_ Try.func137 (by kernel_rfl) rfl #[.int .u64 a0_3] (by rfl) rfl rfl (by (try simp only [List.map_toArray, List.map_cons, List.map_nil]); first | done | rfl | (simp only [List.length_drop, List.length_take]; rfl)) ?_
  with_reducible refine (fhist_Float.calls a0_3 t105 _ A5.out).mono ?_
  rintro e w' ⟨rfl, ⟨nd, rfl⟩⟩
  refine ⟨_, rfl, ?_⟩
  refine hK.out _ _ ⟨(blk_cell BK101.out 0).trans rfl, (blk_cell BK101.out 1).trans rfl, (blk_cell BK101.out 2).trans rfl, (blk_cell BK101.out 3).trans rfl, (blk_cell BK101.out 4).trans rfl, (blk_cell BK101.out 5).trans rfl, (blk_cell BK101.out 6).trans rfl, (blk_cell BK101.out 7).trans rfl, (blk_cell BK101.out 8).trans rfl⟩ (fun hHeld => ?_)
  clear hK K
  refine norm_ (a' := ?_) ?_ ?_
  rotate_left
  ·show Act.put _ (some 20) _ = _
   simp only [Act.put, List.setIfInBounds_toArray, List.set_cons_zero, List.set_cons_succ, i64_w, i32_w]
   rfl
  refine one_ (i := 14) (N := some 25) #[true, true, true, true, true, true, true, true, true, true, true, true, true, true, true, true, true, false, true, true, false, true, true, false, false, false, false] rfl rfl (one_of HT_.out (by kernel_rfl)) (by decide) (fun K hK => ?_)
  refine goes_ Try.func138 (by kernel_rfl) rfl #[.slice A0_5 l0_5.length c0_5] (by rfl) rfl rfl (by (try simp only [List.map_toArray, List.map_cons, List.map_nil]); first | done | rfl | (simp only [List.length_drop, List.length_take]; rfl)) ?_
  with_reducible refine (slices_Clone_span.calls _ _ l0_5 t106 _ ?side1 ?side2 A6.out).mono ?_
  (case side1 => repeat (first | exact (Kd.C_below HR0_5.out (by repeat (first | (with_reducible first | exact HB.out | apply below_alloc | apply pw_below_drewN | apply below_drew1 | refine below_set ?_ GE101.out | refine below_set ?_ GE102.out) | exact HB.out))) | (with_reducible refine Kd.C_alloc ?_ _) | (with_reducible refine Kd.C_drewN ?_ _) | (with_reducible refine Kd.C_drew ?_)))
  (case side2 => exact HC0_5.out)
  rintro e w16 ⟨v107, rfl, ho0, hb⟩
  refine ⟨_, rfl, ?_⟩
  have n0_ := Aside0.mk (Kd.R_lower ho0 (below_size (by repeat (first | (with_reducible first | exact HB.out | apply below_alloc | apply pw_below_drewN | apply below_drew1 | refine below_set ?_ GE101.out | refine below_set ?_ GE102.out) | exact HB.out))))
  have n1_ := Aside0.mk (blk_ub BK101.out hb)
  have n2_ := Aside0.mk (blk_ub BK102.out hb)
  have n3_ := Aside0.mk (below_step (by repeat (first | (with_reducible first | exact HB.out | apply below_alloc | apply pw_below_drewN | apply below_drew1 | refine below_set ?_ GE101.out | refine below_set ?_ GE102.out) | exact HB.out)) hb)
  clear BK101
  clear BK102
  clear HB
  have HO108 := n0_
  have BK101 := n1_
  have BK102 := n2_
  have HB := n3_
  clear n0_ n1_ n2_ n3_
  (try clear hb)
  (try clear hb2)
  (try clear hk)
  (try clear hi)
  (try clear ho0)
  refine hK.out _ _ ⟨(blk_cell BK101.out 0).trans rfl, (blk_cell BK101.out 1).trans rfl, (blk_cell BK101.out 2).trans rfl, (blk_cell BK101.out 3).trans rfl, (blk_cell BK101.out 4).trans rfl, (blk_cell BK101.out 5).trans rfl, (blk_cell BK101.out 6).trans rfl, (blk_cell BK101.out 7).trans rfl, (blk_cell BK101.out 8).trans rfl⟩ (fun hHeld => ?_)
  clear hK K
  refine norm_ (a' := ?_) ?_ ?_
  rotate_left
  ·show Act.put _ (some 25) _ = _
   simp only [Act.put, List.setIfInBounds_toArray, List.set_cons_zero, List.set_cons_succ, i64_w, i32_w]
   rfl
  refine one_ (i := 17) (N := some 28) #[true, true, true, true, true, true, true, true, true, true, true, true, true, true, true, true, true, true, true, true, false, true, true, false, false, false, false] rfl rfl (one_of HT_.out (by kernel_rfl)) (by decide) (fun K hK => ?_)
  refine goes_ Try.func138 (by kernel_rfl) rfl #[.slice A0_6 l0_6.length c0_6] (by rfl) rfl rfl (by (try simp only [List.map_toArray, List.map_cons, List.map_nil]); first | done | rfl | (simp only [List.length_drop, List.length_take]; rfl)) ?_
  with_reducible refine (slices_Clone_span.calls _ _ l0_6 t109 _ ?side1 ?side2 A7.out).mono ?_
  (case side1 => exact Kd.C_u (Kd.C_below HR0_6.out HB.out))
  (case side2 => exact HC0_6.out)
  rintro e w17 ⟨v110, rfl, ho0, hb⟩
  refine ⟨_, rfl, ?_⟩
  have n0_ := Aside0.mk (Kd.R_elder' (Kd.R_u HO108.out) (Kd.R_base ho0) hb)
  have n1_ := Aside0.mk (Kd.R_lower (Kd.R_new' ho0 (Kd.R_lt (Kd.R_u HO108.out))) (below_size (by repeat (first | (with_reducible first | exact HB.out | apply below_alloc | apply pw_below_drewN | apply below_drew1 | refine below_set ?_ GE101.out | refine below_set ?_ GE102.out) | exact HB.out))))
  have n2_ := Aside0.mk (blk_ub BK101.out hb)
  have n3_ := Aside0.mk (blk_ub BK102.out hb)
  have n4_ := Aside0.mk (below_step (by repeat (first | (with_reducible first | exact HB.out | apply below_alloc | apply pw_below_drewN | apply below_drew1 | refine below_set ?_ GE101.out | refine below_set ?_ GE102.out) | exact HB.out)) hb)
  clear HO108
  clear BK101
  clear BK102
  clear HB
  have HO108 := n0_
  have HO111 := n1_
  have BK101 := n2_
  have BK102 := n3_
  have HB := n4_
  clear n0_ n1_ n2_ n3_ n4_
  (try clear hb)
  (try clear hb2)
  (try clear hk)
  (try clear hi)
  (try clear ho0)
  refine hK.out _ _ ⟨(blk_cell BK101.out 0).trans rfl, (blk_cell BK101.out 1).trans rfl, (blk_cell BK101.out 2).trans rfl, (blk_cell BK101.out 3).trans rfl, (blk_cell BK101.out 4).trans rfl, (blk_cell BK101.out 5).trans rfl, (blk_cell BK101.out 6).trans rfl, (blk_cell BK101.out 7).trans rfl, (blk_cell BK101.out 8).trans rfl⟩ (fun hHeld => ?_)
  clear hK K
  refine norm_ (a' := ?_) ?_ ?_
  rotate_left
  ·show Act.put _ (some 28) _ = _
   simp only [Act.put, List.setIfInBounds_toArray, List.set_cons_zero, List.set_cons_succ, i64_w, i32_w]
   rfl
  refine one_ (i := 20) (N := some 31) #[true, true, true, true, true, true, true, true, true, true, true, true, true, true, true, true, true, true, true, true, true, true, true, false, false, false, false] rfl rfl (one_of HT_.out (by kernel_rfl)) (by decide) (fun K hK => ?_)
  refine goes_ Try.func139 (by kernel_rfl) rfl #[.slice A0_7 l0_7.length c0_7] (by rfl) rfl rfl (by (try simp only [List.map_toArray, List.map_cons, List.map_nil]); first | done | rfl | (simp only [List.length_drop, List.length_take]; rfl)) ?_
  with_reducible refine (fhist_floats.calls _ _ l0_7 t112 _ ?side1 ?side2 A8.out).mono ?_
  (case side1 => exact Kd.C_u (Kd.C_below HR0_7.out HB.out))
  (case side2 => exact HC0_7.out)
  rintro e w18 ⟨v113, rfl, ho0, hb⟩
  refine ⟨_, rfl, ?_⟩
  have n0_ := Aside0.mk (Kd.R_ub HO108.out hb)
  have n1_ := Aside0.mk (Kd.R_ub HO111.out hb)
  have n2_ := Aside0.mk (Kd.R_lower ho0 (below_size (by repeat (first | (with_reducible first | exact HB.out | apply below_alloc | apply pw_below_drewN | apply below_drew1 | refine below_set ?_ GE101.out | refine below_set ?_ GE102.out) | exact HB.out))))
  have n3_ := Aside0.mk (blk_ub BK101.out hb)
  have n4_ := Aside0.mk (blk_ub BK102.out hb)
  have n5_ := Aside0.mk (below_step (by repeat (first | (with_reducible first | exact HB.out | apply below_alloc | apply pw_below_drewN | apply below_drew1 | refine below_set ?_ GE101.out | refine below_set ?_ GE102.out) | exact HB.out)) hb)
  clear HO108
  clear HO111
  clear BK101
  clear BK102
  clear HB
  have HO108 := n0_
  have HO111 := n1_
  have HO114 := n2_
  have BK101 := n3_
  have BK102 := n4_
  have HB := n5_
  clear n0_ n1_ n2_ n3_ n4_ n5_
  (try clear hb)
  (try clear hb2)
  (try clear hk)
  (try clear hi)
  (try clear ho0)
  refine hK.out _ _ ⟨(blk_cell BK101.out 0).trans rfl, (blk_cell BK101.out 1).trans rfl, (blk_cell BK101.out 2).trans rfl, (blk_cell BK101.out 3).trans rfl, (blk_cell BK101.out 4).trans rfl, (blk_cell BK101.out 5).trans rfl, (blk_cell BK101.out 6).trans rfl, (blk_cell BK101.out 7).trans rfl, (blk_cell BK101.out 8).trans rfl⟩ (fun hHeld => ?_)
  clear hK K
  refine norm_ (a' := ?_) ?_ ?_
  rotate_left
  ·show Act.put _ (some 31) _ = _
   simp only [Act.put, List.setIfInBounds_toArray, List.set_cons_zero, List.set_cons_succ, i64_w, i32_w]
   rfl
  refine one_ (i := 23) (N := some 34) #[true, true, true, true, true, true, true, true, true, true, true, true, true, true, true, true, true, true, true, true, true, true, true, true, false, false, false] rfl rfl (one_of HT_.out (by kernel_rfl)) (by decide) (fun K hK => ?_)
  refine goes_ Try.func139 (by kernel_rfl) rfl #[.slice A0_8 l0_8.length c0_8] (by rfl) rfl rfl (by (try simp only [List.map_toArray, List.map_cons, List.map_nil]); first | done | rfl | (simp only [List.length_drop, List.length_take]; rfl)) ?_
  with_reducible refine (fhist_floats.calls _ _ l0_8 t115 _ ?side1 ?side2 A9.out).mono ?_
  (case side1 => exact Kd.C_u (Kd.C_below HR0_8.out HB.out))
  (case side2 => exact HC0_8.out)
  rintro e w19 ⟨v116, rfl, ho0, hb⟩
  refine ⟨_, rfl, ?_⟩
  have n0_ := Aside0.mk (Kd.R_ub HO108.out hb)
  have n1_ := Aside0.mk (Kd.R_ub HO111.out hb)
  have n2_ := Aside0.mk (Kd.R_elder' (Kd.R_u HO114.out) (Kd.R_base ho0) hb)
  have n3_ := Aside0.mk (Kd.R_lower (Kd.R_new' ho0 (Kd.R_lt (Kd.R_u HO114.out))) (below_size (by repeat (first | (with_reducible first | exact HB.out | apply below_alloc | apply pw_below_drewN | apply below_drew1 | refine below_set ?_ GE101.out | refine below_set ?_ GE102.out) | exact HB.out))))
  have n4_ := Aside0.mk (blk_ub BK101.out hb)
  have n5_ := Aside0.mk (blk_ub BK102.out hb)
  have n6_ := Aside0.mk (below_step (by repeat (first | (with_reducible first | exact HB.out | apply below_alloc | apply pw_below_drewN | apply below_drew1 | refine below_set ?_ GE101.out | refine below_set ?_ GE102.out) | exact HB.out)) hb)
  clear HO108
  clear HO111
  clear HO114
  clear BK101
  clear BK102
  clear HB
  have HO108 := n0_
  have HO111 := n1_
  have HO114 := n2_
  have HO117 := n3_
  have BK101 := n4_
  have BK102 := n5_
  have HB := n6_
  clear n0_ n1_ n2_ n3_ n4_ n5_ n6_
  (try clear hb)
  (try clear hb2)
  (try clear hk)
  (try clear hi)
  (try clear ho0)
  obtain ⟨Ao20, co20, eo20⟩ := Kd.R_slice HO117.out
  (first | subst eo20 | (injection eo20 with f1_ f2_ f3_; have f4_ := f1_.symm; have f5_ := f3_.symm; clear f1_ f2_ f3_; subst f4_; subst f5_))
  obtain ⟨Ao21, co21, eo21⟩ := Kd.R_slice HO114.out
  (first | subst eo21 | (injection eo21 with f1_ f2_ f3_; have f4_ := f1_.symm; have f5_ := f3_.symm; clear f1_ f2_ f3_; subst f4_; subst f5_))
  obtain ⟨Ao22, co22, eo22⟩ := Kd.R_slice HO111.out
  (first | subst eo22 | (injection eo22 with f1_ f2_ f3_; have f4_ := f1_.symm; have f5_ := f3_.symm; clear f1_ f2_ f3_; subst f4_; subst f5_))
  obtain ⟨Ao23, co23, eo23⟩ := Kd.R_slice HO108.out
  (first | subst eo23 | (injection eo23 with f1_ f2_ f3_; have f4_ := f1_.symm; have f5_ := f3_.symm; clear f1_ f2_ f3_; subst f4_; subst f5_))
  refine hK.out _ _ ⟨(blk_cell BK101.out 0).trans rfl, (blk_cell BK101.out 1).trans rfl, (blk_cell BK101.out 2).trans rfl, (blk_cell BK101.out 3).trans rfl, (blk_cell BK101.out 4).trans rfl, (blk_cell BK101.out 5).trans rfl, (blk_cell BK101.out 6).trans rfl, (blk_cell BK101.out 7).trans rfl, (blk_cell BK101.out 8).trans rfl⟩ (fun hHeld => ?_)
  clear hK K
  refine norm_ (a' := ?_) ?_ ?_
  rotate_left
  ·show Act.put _ (some 34) _ = _
   simp only [Act.put, List.setIfInBounds_toArray, List.set_cons_zero, List.set_cons_succ, i64_w, i32_w]
   rfl
  refine pure_ (i := 24) (N := some 35) (v := ?_) (a' := ?_) #[true, true, true, true, true, true, true, true, true, true, true, true, true, true, true, true, true, true, true, true, true, true, true, true, true, false, false] rfl rfl (any_of HT_.out (by kernel_rfl)) (fun _ _ _ h => h) (Or.inl ⟨by rfl, ?_⟩) ?_ ?_
  rotate_left
  ·intro w'
   go_simp
   with_reducible rfl
  rotate_left
  ·simp only [Act.put, List.setIfInBounds_toArray, List.set_cons_zero, List.set_cons_succ, i64_w, i32_w]
   rfl
  refine one_ (i := 25) (N := none) #[true, true, true, true, true, true, true, true, true, true, true, true, true, true, true, true, true, true, true, true, true, true, true, true, true, true, false] rfl rfl (one_of HT_.out (by kernel_rfl)) (by decide) (fun K hK => ?_)
  have hs24 : w19.cell? ⟨gb102, 0, none⟩ = some (.int .i64 0) := (blk_cell BK102.out 0).trans rfl
  have hfs24 := blk_frozen BK102.out 0
  have hns24_0 := NB101_102.out
  have hms24_0 := NB102_101.out
  have hs25 : w19.cell? ⟨gb102, 1, none⟩ = some (.int .u64 0) := (blk_cell BK102.out 1).trans rfl
  have hfs25 := blk_frozen BK102.out 1
  have hns25_0 := NB101_102.out
  have hms25_0 := NB102_101.out
  have hs26 : w19.cell? ⟨gb102, 2, none⟩ = some (.int .u64 0) := (blk_cell BK102.out 2).trans rfl
  have hfs26 := blk_frozen BK102.out 2
  have hns26_0 := NB101_102.out
  have hms26_0 := NB102_101.out
  have hs27 : w19.cell? ⟨gb102, 3, none⟩ = some (.int .u64 0) := (blk_cell BK102.out 3).trans rfl
  have hfs27 := blk_frozen BK102.out 3
  have hns27_0 := NB101_102.out
  have hms27_0 := NB102_101.out
  have hs28 : w19.cell? ⟨gb102, 4, none⟩ = some (.int .u64 0) := (blk_cell BK102.out 4).trans rfl
  have hfs28 := blk_frozen BK102.out 4
  have hns28_0 := NB101_102.out
  have hms28_0 := NB102_101.out
  have hs29 : w19.cell? ⟨gb102, 5, none⟩ = some (.slice none 0 0) := (blk_cell BK102.out 5).trans rfl
  have hfs29 := blk_frozen BK102.out 5
  have hns29_0 := NB101_102.out
  have hms29_0 := NB102_101.out
  have hs30 : w19.cell? ⟨gb102, 6, none⟩ = some (.slice none 0 0) := (blk_cell BK102.out 6).trans rfl
  have hfs30 := blk_frozen BK102.out 6
  have hns30_0 := NB101_102.out
  have hms30_0 := NB102_101.out
  have hs31 : w19.cell? ⟨gb102, 7, none⟩ = some (.slice none 0 0) := (blk_cell BK102.out 7).trans rfl
  have hfs31 := blk_frozen BK102.out 7
  have hns31_0 := NB101_102.out
  have hms31_0 := NB102_101.out
  have hs32 : w19.cell? ⟨gb102, 8, none⟩ = some (.slice none 0 0) := (blk_cell BK102.out 8).trans rfl
  have hfs32 := blk_frozen BK102.out 8
  have hns32_0 := NB101_102.out
  have hms32_0 := NB102_101.out
  refine skip_ (w1 := ?_) (by rfl) rfl ?_ ?_
  rotate_left
  ·go_simp
   rfl
  refine hK.out _ _ ⟨((cell_far (p := ⟨gb102, _, none⟩) NB101_102.out _).trans (((cell_far (p := ⟨gb102, _, none⟩) NB101_102.out _).trans (((cell_far (p := ⟨gb102, _, none⟩) NB101_102.out _).trans (((cell_far (p := ⟨gb102, _, none⟩) NB101_102.out _).trans (((cell_far (p := ⟨gb102, _, none⟩) NB101_102.out _).trans (((cell_far (p := ⟨gb102, _, none⟩) NB101_102.out _).trans (((cell_far (p := ⟨gb102, _, none⟩) NB101_102.out _).trans (((cell_far (p := ⟨gb102, _, none⟩) NB101_102.out _).trans (((cell_far (p := ⟨gb102, _, none⟩) NB101_102.out _).trans (hHeld.1)))))))))))))))))), ((cell_far (p := ⟨gb102, _, none⟩) NB101_102.out _).trans (((cell_far (p := ⟨gb102, _, none⟩) NB101_102.out _).trans (((cell_far (p := ⟨gb102, _, none⟩) NB101_102.out _).trans (((cell_far (p := ⟨gb102, _, none⟩) NB101_102.out _).trans (((cell_far (p := ⟨gb102, _, none⟩) NB101_102.out _).trans (((cell_far (p := ⟨gb102, _, none⟩) NB101_102.out _).trans (((cell_far (p := ⟨gb102, _, none⟩) NB101_102.out _).trans (((cell_far (p := ⟨gb102, _, none⟩) NB101_102.out _).trans (((cell_far (p := ⟨gb102, _, none⟩) NB101_102.out _).trans (hHeld.2.1)))))))))))))))))), ((cell_far (p := ⟨gb102, _, none⟩) NB101_102.out _).trans (((cell_far (p := ⟨gb102, _, none⟩) NB101_102.out _).trans (((cell_far (p := ⟨gb102, _, none⟩) NB101_102.out _).trans (((cell_far (p := ⟨gb102, _, none⟩) NB101_102.out _).trans (((cell_far (p := ⟨gb102, _, none⟩) NB101_102.out _).trans (((cell_far (p := ⟨gb102, _, none⟩) NB101_102.out _).trans (((cell_far (p := ⟨gb102, _, none⟩) NB101_102.out _).trans (((cell_far (p := ⟨gb102, _, none⟩) NB101_102.out _).trans (((cell_far (p := ⟨gb102, _, none⟩) NB101_102.out _).trans (hHeld.2.2.1)))))))))))))))))), ((cell_far (p := ⟨gb102, _, none⟩) NB101_102.out _).trans (((cell_far (p := ⟨gb102, _, none⟩) NB101_102.out _).trans (((cell_far (p := ⟨gb102, _, none⟩) NB101_102.out _).trans (((cell_far (p := ⟨gb102, _, none⟩) NB101_102.out _).trans (((cell_far (p := ⟨gb102, _, none⟩) NB101_102.out _).trans (((cell_far (p := ⟨gb102, _, none⟩) NB101_102.out _).trans (((cell_far (p := ⟨gb102, _, none⟩) NB101_102.out _).trans (((cell_far (p := ⟨gb102, _, none⟩) NB101_102.out _).trans (((cell_far (p := ⟨gb102, _, none⟩) NB101_102.out _).trans (hHeld.2.2.2.1)))))))))))))))))), ((cell_far (p := ⟨gb102, _, none⟩) NB101_102.out _).trans (((cell_far (p := ⟨gb102, _, none⟩) NB101_102.out _).trans (((cell_far (p := ⟨gb102, _, none⟩) NB101_102.out _).trans (((cell_far (p := ⟨gb102, _, none⟩) NB101_102.out _).trans (((cell_far (p := ⟨gb102, _, none⟩) NB101_102.out _).trans (((cell_far (p := ⟨gb102, _, none⟩) NB101_102.out _).trans (((cell_far (p := ⟨gb102, _, none⟩) NB101_102.out _).trans (((cell_far (p := ⟨gb102, _, none⟩) NB101_102.out _).trans (((cell_far (p := ⟨gb102, _, none⟩) NB101_102.out _).trans (hHeld.2.2.2.2.1)))))))))))))))))), ((cell_far (p := ⟨gb102, _, none⟩) NB101_102.out _).trans (((cell_far (p := ⟨gb102, _, none⟩) NB101_102.out _).trans (((cell_far (p := ⟨gb102, _, none⟩) NB101_102.out _).trans (((cell_far (p := ⟨gb102, _, none⟩) NB101_102.out _).trans (((cell_far (p := ⟨gb102, _, none⟩) NB101_102.out _).trans (((cell_far (p := ⟨gb102, _, none⟩) NB101_102.out _).trans (((cell_far (p := ⟨gb102, _, none⟩) NB101_102.out _).trans (((cell_far (p := ⟨gb102, _, none⟩) NB101_102.out _).trans (((cell_far (p := ⟨gb102, _, none⟩) NB101_102.out _).trans (hHeld.2.2.2.2.2.1)))))))))))))))))), ((cell_far (p := ⟨gb102, _, none⟩) NB101_102.out _).trans (((cell_far (p := ⟨gb102, _, none⟩) NB101_102.out _).trans (((cell_far (p := ⟨gb102, _, none⟩) NB101_102.out _).trans (((cell_far (p := ⟨gb102, _, none⟩) NB101_102.out _).trans (((cell_far (p := ⟨gb102, _, none⟩) NB101_102.out _).trans (((cell_far (p := ⟨gb102, _, none⟩) NB101_102.out _).trans (((cell_far (p := ⟨gb102, _, none⟩) NB101_102.out _).trans (((cell_far (p := ⟨gb102, _, none⟩) NB101_102.out _).trans (((cell_far (p := ⟨gb102, _, none⟩) NB101_102.out _).trans (hHeld.2.2.2.2.2.2.1)))))))))))))))))), ((cell_far (p := ⟨gb102, _, none⟩) NB101_102.out _).trans (((cell_far (p := ⟨gb102, _, none⟩) NB101_102.out _).trans (((cell_far (p := ⟨gb102, _, none⟩) NB101_102.out _).trans (((cell_far (p := ⟨gb102, _, none⟩) NB101_102.out _).trans (((cell_far (p := ⟨gb102, _, none⟩) NB101_102.out _).trans (((cell_far (p := ⟨gb102, _, none⟩) NB101_102.out _).trans (((cell_far (p := ⟨gb102, _, none⟩) NB101_102.out _).trans (((cell_far (p := ⟨gb102, _, none⟩) NB101_102.out _).trans (((cell_far (p := ⟨gb102, _, none⟩) NB101_102.out _).trans (hHeld.2.2.2.2.2.2.2.1)))))))))))))))))), ((cell_far (p := ⟨gb102, _, none⟩) NB101_102.out _).trans (((cell_far (p := ⟨gb102, _, none⟩) NB101_102.out _).trans (((cell_far (p := ⟨gb102, _, none⟩) NB101_102.out _).trans (((cell_far (p := ⟨gb102, _, none⟩) NB101_102.out _).trans (((cell_far (p := ⟨gb102, _, none⟩) NB101_102.out _).trans (((cell_far (p := ⟨gb102, _, none⟩) NB101_102.out _).trans (((cell_far (p := ⟨gb102, _, none⟩) NB101_102.out _).trans (((cell_far (p := ⟨gb102, _, none⟩) NB101_102.out _).trans (((cell_far (p := ⟨gb102, _, none⟩) NB101_102.out _).trans (hHeld.2.2.2.2.2.2.2.2))))))))))))))))))⟩ (fun hHeld => ?_)
  clear hK K
  refine pure_ (i := 26) (N := some 3) (v := ?_) (a' := ?_) #[true, true, true, true, true, true, true, true, true, true, true, true, true, true, true, true, true, true, true, true, true, true, true, true, true, true, true] rfl rfl (any_of HT_.out (by kernel_rfl)) (fun _ _ _ h => h) (Or.inl ⟨by rfl, ?_⟩) ?_ ?_
  rotate_left
  ·intro w'
   go_simp
   with_reducible rfl
  rotate_left
  ·simp only [Act.put, List.setIfInBounds_toArray, List.set_cons_zero, List.set_cons_succ, i64_w, i32_w]
   rfl
  refine done_ (done_of HT_.out (by kernel_rfl)) ?_
  try go_wp2
  refine bodyPost_ret (results_ct rfl _ _ gb102 55 #[.int .i64 a0_0, .int .u64 a0_1, .int .u64 t104, .int .u64 t105, .int .u64 a0_4, .slice Ao23 t106.length co23, .slice Ao22 t109.length co22, .slice Ao21 t112.length co21, .slice Ao20 t115.length co20] (0, 0) _ rfl (by (repeat with_reducible refine blk_q ?_); refine blk_put (cs := #[.int .i64 a0_0, .int .u64 a0_1, .int .u64 t104, .int .u64 t105, .int .u64 a0_4, .slice Ao23 t106.length co23, .slice Ao22 t109.length co22, .slice Ao21 t112.length co21, .slice none 0 0]) ?_ 8 _ rfl; (repeat with_reducible refine blk_q ?_); refine blk_put (cs := #[.int .i64 a0_0, .int .u64 a0_1, .int .u64 t104, .int .u64 t105, .int .u64 a0_4, .slice Ao23 t106.length co23, .slice Ao22 t109.length co22, .slice none 0 0, .slice none 0 0]) ?_ 7 _ rfl; (repeat with_reducible refine blk_q ?_); refine blk_put (cs := #[.int .i64 a0_0, .int .u64 a0_1, .int .u64 t104, .int .u64 t105, .int .u64 a0_4, .slice Ao23 t106.length co23, .slice none 0 0, .slice none 0 0, .slice none 0 0]) ?_ 6 _ rfl; (repeat with_reducible refine blk_q ?_); refine blk_put (cs := #[.int .i64 a0_0, .int .u64 a0_1, .int .u64 t104, .int .u64 t105, .int .u64 a0_4, .slice none 0 0, .slice none 0 0, .slice none 0 0, .slice none 0 0]) ?_ 5 _ rfl; (repeat with_reducible refine blk_q ?_); refine blk_put (cs := #[.int .i64 a0_0, .int .u64 a0_1, .int .u64 t104, .int .u64 t105, .int .u64 0, .slice none 0 0, .slice none 0 0, .slice none 0 0, .slice none 0 0]) ?_ 4 _ rfl; (repeat with_reducible refine blk_q ?_); refine blk_put (cs := #[.int .i64 a0_0, .int .u64 a0_1, .int .u64 t104, .int .u64 0, .int .u64 0, .slice none 0 0, .slice none 0 0, .slice none 0 0, .slice none 0 0]) ?_ 3 _ rfl; (repeat with_reducible refine blk_q ?_); refine blk_put (cs := #[.int .i64 a0_0, .int .u64 a0_1, .int .u64 0, .int .u64 0, .int .u64 0, .slice none 0 0, .slice none 0 0, .slice none 0 0, .slice none 0 0]) ?_ 2 _ rfl; (repeat with_reducible refine blk_q ?_); refine blk_put (cs := #[.int .i64 a0_0, .int .u64 0, .int .u64 0, .int .u64 0, .int .u64 0, .slice none 0 0, .slice none 0 0, .slice none 0 0, .slice none 0 0]) ?_ 1 _ rfl; (repeat with_reducible refine blk_q ?_); refine blk_put (cs := #[.int .i64 0, .int .u64 0, .int .u64 0, .int .u64 0, .int .u64 0, .slice none 0 0, .slice none 0 0, .slice none 0 0, .slice none 0 0]) ?_ 0 _ rfl; (repeat with_reducible refine blk_q ?_); exact BK102.out) Try.underlying55 rfl (by kernel_rfl)) rfl ?_
  exact ⟨_, _, _, _, by first | rfl | (simp [errW_none, errW_some] <;> rfl) | (simp [*, errW_none, errW_some] <;> rfl), by (repeat with_reducible refine Kd.R_q ?_); exact Kd.R_mono (Kd.R_far (p := ⟨gb102, 8, none⟩) (Kd.R_far (p := ⟨gb102, 7, none⟩) (Kd.R_far (p := ⟨gb102, 6, none⟩) (Kd.R_far (p := ⟨gb102, 5, none⟩) (Kd.R_far (p := ⟨gb102, 4, none⟩) (Kd.R_far (p := ⟨gb102, 3, none⟩) (Kd.R_far (p := ⟨gb102, 2, none⟩) (Kd.R_far (p := ⟨gb102, 1, none⟩) (Kd.R_far (p := ⟨gb102, 0, none⟩) (Kd.R_types HO108.out BK102.out (by decide)) (fun _ hk => hk.2) (.int .i64 a0_0)) (fun _ hk => hk.2) (.int .u64 a0_1)) (fun _ hk => hk.2) (.int .u64 t104)) (fun _ hk => hk.2) (.int .u64 t105)) (fun _ hk => hk.2) (.int .u64 a0_4)) (fun _ hk => hk.2) (.slice Ao23 t106.length co23)) (fun _ hk => hk.2) (.slice Ao22 t109.length co22)) (fun _ hk => hk.2) (.slice Ao21 t112.length co21)) (fun _ hk => hk.2) (.slice Ao20 t115.length co20)) (fun _ hk => hk.1.2), by (repeat with_reducible refine Kd.R_q ?_); exact Kd.R_mono (Kd.R_far (p := ⟨gb102, 8, none⟩) (Kd.R_far (p := ⟨gb102, 7, none⟩) (Kd.R_far (p := ⟨gb102, 6, none⟩) (Kd.R_far (p := ⟨gb102, 5, none⟩) (Kd.R_far (p := ⟨gb102, 4, none⟩) (Kd.R_far (p := ⟨gb102, 3, none⟩) (Kd.R_far (p := ⟨gb102, 2, none⟩) (Kd.R_far (p := ⟨gb102, 1, none⟩) (Kd.R_far (p := ⟨gb102, 0, none⟩) (Kd.R_types HO111.out BK102.out (by decide)) (fun _ hk => hk.2) (.int .i64 a0_0)) (fun _ hk => hk.2) (.int .u64 a0_1)) (fun _ hk => hk.2) (.int .u64 t104)) (fun _ hk => hk.2) (.int .u64 t105)) (fun _ hk => hk.2) (.int .u64 a0_4)) (fun _ hk => hk.2) (.slice Ao23 t106.length co23)) (fun _ hk => hk.2) (.slice Ao22 t109.length co22)) (fun _ hk => hk.2) (.slice Ao21 t112.length co21)) (fun _ hk => hk.2) (.slice Ao20 t115.length co20)) (fun _ hk => hk.1.2), by (repeat with_reducible refine Kd.R_q ?_); exact Kd.R_mono (Kd.R_far (p := ⟨gb102, 8, none⟩) (Kd.R_far (p := ⟨gb102, 7, none⟩) (Kd.R_far (p := ⟨gb102, 6, none⟩) (Kd.R_far (p := ⟨gb102, 5, none⟩) (Kd.R_far (p := ⟨gb102, 4, none⟩) (Kd.R_far (p := ⟨gb102, 3, none⟩) (Kd.R_far (p := ⟨gb102, 2, none⟩) (Kd.R_far (p := ⟨gb102, 1, none⟩) (Kd.R_far (p := ⟨gb102, 0, none⟩) (Kd.R_types HO114.out BK102.out (by decide)) (fun _ hk => hk.2) (.int .i64 a0_0)) (fun _ hk => hk.2) (.int .u64 a0_1)) (fun _ hk => hk.2) (.int .u64 t104)) (fun _ hk => hk.2) (.int .u64 t105)) (fun _ hk => hk.2) (.int .u64 a0_4)) (fun _ hk => hk.2) (.slice Ao23 t106.length co23)) (fun _ hk => hk.2) (.slice Ao22 t109.length co22)) (fun _ hk => hk.2) (.slice Ao21 t112.length co21)) (fun _ hk => hk.2) (.slice Ao20 t115.length co20)) (fun _ hk => hk.1.2), by (repeat with_reducible refine Kd.R_q ?_); exact Kd.R_mono (Kd.R_far (p := ⟨gb102, 8, none⟩) (Kd.R_far (p := ⟨gb102, 7, none⟩) (Kd.R_far (p := ⟨gb102, 6, none⟩) (Kd.R_far (p := ⟨gb102, 5, none⟩) (Kd.R_far (p := ⟨gb102, 4, none⟩) (Kd.R_far (p := ⟨gb102, 3, none⟩) (Kd.R_far (p := ⟨gb102, 2, none⟩) (Kd.R_far (p := ⟨gb102, 1, none⟩) (Kd.R_far (p := ⟨gb102, 0, none⟩) (Kd.R_types HO117.out BK102.out (by decide)) (fun _ hk => hk.2) (.int .i64 a0_0)) (fun _ hk => hk.2) (.int .u64 a0_1)) (fun _ hk => hk.2) (.int .u64 t104)) (fun _ hk => hk.2) (.int .u64 t105)) (fun _ hk => hk.2) (.int .u64 a0_4)) (fun _ hk => hk.2) (.slice Ao23 t106.length co23)) (fun _ hk => hk.2) (.slice Ao22 t109.length co22)) (fun _ hk => hk.2) (.slice Ao21 t112.length co21)) (fun _ hk => hk.2) (.slice Ao20 t115.length co20)) (fun _ hk => hk.1.2), by repeat (first | (with_reducible first | exact HB.out | apply below_alloc | apply pw_below_drewN | apply below_drew1 | refine below_set ?_ GE101.out | refine below_set ?_ GE102.out) | exact HB.out)⟩
 rw [if_neg c3] at H
 have c3b0 : (t103 == 0) = false := beq_eq_false_iff_ne.mpr c3
 have c3b1 : (t103 != 0) = true := bne_iff_ne.mpr c3
 simp only [Option.some.injEq, Prod.mk.injEq] at H
 obtain ⟨rfl, rfl, rfl, rfl, rfl, rfl, rfl, rfl, rfl, rfl⟩ := H
 go_enter Try.func74, Try.ntmps74
 go_wp2_with (first | ((with_reducible refine gate_dst (N := 1) rfl ?_); refine box_event ?hg (N := 1) ?hd (cs := #[.int .i64 a0_0, .int .u64 a0_1, .int .u64 a0_2, .int .u64 a0_3, .int .u64 a0_4, .slice A0_5 l0_5.length c0_5, .slice A0_6 l0_6.length c0_6, .slice A0_7 l0_7.length c0_7, .slice A0_8 l0_8.length c0_8]) (t := 29) ?hr ?_; (case hd => rfl); (case hg => rfl); (case hr => first | (go_simp; done) | (go_simp; rfl)); intro gb101 hg w33 hbox hb; have BK101 := Aside0.mk (hbox); have GW101 := Aside0.mk ((by rw [hg]; exact (below_size (below_u HB.out)) : w.heap.size ≤ gb101)); have GE101 := Aside0.mk ((by rw [hg]; exact (below_size (below_u HB.out)) : w.heap.size ≤ gb101)); replace HB := Aside0.mk (below_step (below_u HB.out) hb); clear hb hbox hg) | ((with_reducible refine gate_dst (N := 2) rfl ?_); refine box_event ?hg (N := 2) ?hd (cs := #[.int .i64 0, .int .u64 0, .int .u64 0, .int .u64 0, .int .u64 0, .slice none 0 0, .slice none 0 0, .slice none 0 0, .slice none 0 0]) (t := 55) ?hr ?_; (case hd => rfl); (case hg => rfl); (case hr => first | (go_simp; done) | (go_simp; rfl)); intro gb102 hg w34 hbox hb; have BK102 := Aside0.mk (hbox); have GW102 := Aside0.mk ((by rw [hg]; exact (below_size (by repeat (first | (with_reducible first | exact HB.out | apply below_alloc | apply pw_below_drewN | apply below_drew1 | refine below_set ?_ GE101.out) | exact HB.out))) : w.heap.size ≤ gb102)); have GE102 := Aside0.mk ((by rw [hg]; exact (below_size (by repeat (first | (with_reducible first | exact HB.out | apply below_alloc | apply pw_below_drewN | apply below_drew1 | refine below_set ?_ GE101.out) | exact HB.out))) : w.heap.size ≤ gb102)); have NB101_102 := Aside0.mk ((by rw [hg]; exact Nat.ne_of_lt (blk_lt (g := gb101) (o := .cells #[.int .i64 a0_0, .int .u64 a0_1, .int .u64 a0_2, .int .u64 a0_3, .int .u64 a0_4, .slice A0_5 l0_5.length c0_5, .slice A0_6 l0_6.length c0_6, .slice A0_7 l0_7.length c0_7, .slice A0_8 l0_8.length c0_8] 29 (0, 0)) (blk_u BK101.out)) : gb101 ≠ gb102)); have NB102_101 := Aside0.mk ((by rw [hg]; exact Nat.ne_of_gt (blk_lt (g := gb101) (o := .cells #[.int .i64 a0_0, .int .u64 a0_1, .int .u64 a0_2, .int .u64 a0_3, .int .u64 a0_4, .slice A0_5 l0_5.length c0_5, .slice A0_6 l0_6.length c0_6, .slice A0_7 l0_7.length c0_7, .slice A0_8 l0_8.length c0_8] 29 (0, 0)) (blk_u BK101.out)) : gb102 ≠ gb101)); replace BK101 := Aside0.mk (blk_ub BK101.out hb); replace HB := Aside0.mk (below_step (by repeat (first | (with_reducible first | exact HB.out | apply below_alloc | apply pw_below_drewN | apply below_drew1 | refine below_set ?_ GE101.out) | exact HB.out)) hb); clear hb hbox hg; have hnb35 := NB101_102.out; have hnc35 := NB102_101.out; have hcz36_0 := blk_cell BK101.out; have hfz36_0 := blk_frozen BK101.out) | ((with_reducible refine gate_callee (f := 31) rfl ?_); refine goesL_ (some 6) rfl rfl Try.func31 (by kernel_rfl) rfl #[.agg #[.int .i64 a0_0, .int .u64 a0_1, .int .u64 a0_2, .int .u64 a0_3, .int .u64 a0_4, .slice A0_5 l0_5.length c0_5, .slice A0_6 l0_6.length c0_6, .slice A0_7 l0_7.length c0_7, .slice A0_8 l0_8.length c0_8]] rfl (by (try simp only [List.map_toArray, List.map_cons, List.map_nil]); first | done | rfl | (simp only [List.length_drop, List.length_take]; rfl)) ?_; (with_reducible refine (hist_Check.calls a0_0 a0_1 a0_2 a0_3 a0_4 _ _ l0_5 _ _ l0_6 _ _ l0_7 _ _ l0_8 t103 _ ?side1 ?side2 ?side3 ?side4 ?side5 ?side6 ?side7 ?side8 A2.out).mono ?_); (case side1 => exact Kd.C_u (Kd.C_below HR0_5.out HB.out)); (case side2 => exact HC0_5.out); (case side3 => exact Kd.C_u (Kd.C_below HR0_6.out HB.out)); (case side4 => exact HC0_6.out); (case side5 => exact Kd.C_u (Kd.C_below HR0_7.out HB.out)); (case side6 => exact HC0_7.out); (case side7 => exact Kd.C_u (Kd.C_below HR0_8.out HB.out)); (case side8 => exact HC0_8.out); rintro e w37 ⟨rfl, hb⟩; refine ⟨_, rfl, ?_⟩; replace BK101 := Aside0.mk (blk_ub BK101.out hb); replace BK102 := Aside0.mk (blk_ub BK102.out hb); replace HB := Aside0.mk (below_step (by repeat (first | (with_reducible first | exact HB.out | apply below_alloc | apply pw_below_drewN | apply below_drew1 | refine below_set ?_ GE101.out | refine below_set ?_ GE102.out) | exact HB.out)) hb); (try clear hb); (try clear hb2); (try clear hk); (try clear hi); clear A2; have hcz38_0 := blk_cell BK102.out; have hfz38_0 := blk_frozen BK102.out))
 refine bodyPost_ret (results_ct rfl _ _ gb102 55 #[.int .i64 0, .int .u64 0, .int .u64 0, .int .u64 0, .int .u64 0, .slice none 0 0, .slice none 0 0, .slice none 0 0, .slice none 0 0] (0, 0) _ rfl (by (repeat with_reducible refine blk_q ?_); refine blk_put (cs := #[.int .i64 0, .int .u64 0, .int .u64 0, .int .u64 0, .int .u64 0, .slice none 0 0, .slice none 0 0, .slice none 0 0, .slice none 0 0]) ?_ 8 _ rfl; (repeat with_reducible refine blk_q ?_); refine blk_put (cs := #[.int .i64 0, .int .u64 0, .int .u64 0, .int .u64 0, .int .u64 0, .slice none 0 0, .slice none 0 0, .slice none 0 0, .slice none 0 0]) ?_ 7 _ rfl; (repeat with_reducible refine blk_q ?_); refine blk_put (cs := #[.int .i64 0, .int .u64 0, .int .u64 0, .int .u64 0, .int .u64 0, .slice none 0 0, .slice none 0 0, .slice none 0 0, .slice none 0 0]) ?_ 6 _ rfl; (repeat with_reducible refine blk_q ?_); refine blk_put (cs := #[.int .i64 0, .int .u64 0, .int .u64 0, .int .u64 0, .int .u64 0, .slice none 0 0, .slice none 0 0, .slice none 0 0, .slice none 0 0]) ?_ 5 _ rfl; (repeat with_reducible refine blk_q ?_); refine blk_put (cs := #[.int .i64 0, .int .u64 0, .int .u64 0, .int .u64 0, .int .u64 0, .slice none 0 0, .slice none 0 0, .slice none 0 0, .slice none 0 0]) ?_ 4 _ rfl; (repeat with_reducible refine blk_q ?_); refine blk_put (cs := #[.int .i64 0, .int .u64 0, .int .u64 0, .int .u64 0, .int .u64 0, .slice none 0 0, .slice none 0 0, .slice none 0 0, .slice none 0 0]) ?_ 3 _ rfl; (repeat with_reducible refine blk_q ?_); refine blk_put (cs := #[.int .i64 0, .int .u64 0, .int .u64 0, .int .u64 0, .int .u64 0, .slice none 0 0, .slice none 0 0, .slice none 0 0, .slice none 0 0]) ?_ 2 _ rfl; (repeat with_reducible refine blk_q ?_); refine blk_put (cs := #[.int .i64 0, .int .u64 0, .int .u64 0, .int .u64 0, .int .u64 0, .slice none 0 0, .slice none 0 0, .slice none 0 0, .slice none 0 0]) ?_ 1 _ rfl; (repeat with_reducible refine blk_q ?_); refine blk_put (cs := #[.int .i64 0, .int .u64 0, .int .u64 0, .int .u64 0, .int .u64 0, .slice none 0 0, .slice none 0 0, .slice none 0 0, .slice none 0 0]) ?_ 0 _ rfl; (repeat with_reducible refine blk_q ?_); exact BK102.out) Try.underlying55 rfl (by kernel_rfl)) rfl ?_
 exact ⟨_, _, _, _, by first | rfl | (simp [errW_none, errW_some] <;> rfl) | (simp [*, errW_none, errW_some] <;> rfl), by first | exact Kd.R_nil _ _ _ _ _ | exact Kd.N_nil _ _ _ _ _ | exact Kd.V_nil _ _ _ _ _ | exact Kd.Q_nil _ _ _ _ _ | exact Kd.S_nil _ _ _ _ _, by first | exact Kd.R_nil _ _ _ _ _ | exact Kd.N_nil _ _ _ _ _ | exact Kd.V_nil _ _ _ _ _ | exact Kd.Q_nil _ _ _ _ _ | exact Kd.S_nil _ _ _ _ _, by first | exact Kd.R_nil _ _ _ _ _ | exact Kd.N_nil _ _ _ _ _ | exact Kd.V_nil _ _ _ _ _ | exact Kd.Q_nil _ _ _ _ _ | exact Kd.S_nil _ _ _ _ _, by first | exact Kd.R_nil _ _ _ _ _ | exact Kd.N_nil _ _ _ _ _ | exact Kd.V_nil _ _ _ _ _ | exact Kd.Q_nil _ _ _ _ _ | exact Kd.S_nil _ _ _ _ _, by repeat (first | (with_reducible first | exact HB.out | apply below_alloc | apply pw_below_drewN | apply below_drew1 | refine below_set ?_ GE101.out | refine below_set ?_ GE102.out) | exact HB.out)⟩
end Go.Proofs.Ytooiccpmngmapaa.P
namespace Go.Proofs.Ytooiccpmngmapaa.P
open Go.RowKit Go.Shelf Go.Proofs.YtooiccpmngmapaaW.PrintWords Go.Proofs.YtooiccpmngmapaaW.PrintLast Go.Proofs.YtooiccpmngmapaaW.PrintMore
theorem HI.at57 {w : World} {h : Hi} {x0 x1 x2 x3 x4 v5 v6 v7 v8 : Value} (hv : HI w (.agg #[x0, x1, x2, x3, x4, v5, v6, v7, v8]) h) : SI kSp w v5 h.f5 ∧ SI (Kd.int .i64) w v7 h.f7 := by
  obtain ⟨u5, u6, u7, u8, e, h5, h6, h7, h8⟩ := hv
  injection e with e
  have e5 := congrArg (fun a : Array Value => a.getD 5 undef) e
  have e7 := congrArg (fun a : Array Value => a.getD 7 undef) e
  simp at e5 e7
  rw [e5, e7]
  exact ⟨h5, h7⟩
def one25 : Hi := ⟨1, 0, 0, 5, 0, [⟨3, 3⟩], [], [1, -1, 4], []⟩
def res25 : Hi := ⟨0, 0, 0, 5, 0, [⟨2, 2⟩], [], [1, 3], []⟩
theorem aw25_1 : scaleR one25 0 = (res25, 0) := by kernel_rfl
def zero25 : Hi := ⟨0, 0, 0, 0, 0, [], [], [], []⟩
theorem aw25_4 : scaleR one25 2 = (zero25, 21) := by kernel_rfl
theorem aw25_7 : checkR one25 = 0 := by kernel_rfl
theorem one25_wf : wfH one25 := by unfold wfH; decide
theorem one25_x (w : World) : Calls Try.prog 73 #[] w fun e w' => ∃ oA5 oc5 oA6 oc6 oA7 oc7 oA8 oc8, e = .returned (.agg #[.int .i64 1, .int .u64 0, .int .u64 0, .int .u64 5, .int .u64 0, .slice oA5 1 oc5, .slice oA6 0 oc6, .slice oA7 3 oc7, .slice oA8 0 oc8]) ∧ HI w' (.agg #[.int .i64 1, .int .u64 0, .int .u64 0, .int .u64 5, .int .u64 0, .slice oA5 1 oc5, .slice oA6 0 oc6, .slice oA7 3 oc7, .slice oA8 0 oc8]) one25 ∧ Below w.heap.size w w' := by
  refine (tidepolelaw25_one.calls 1 0 0 5 0 [⟨3, 3⟩] [] [1, -1, 4] [] w (by kernel_rfl)).mono ?_
  rintro e w1 ⟨v5, v6, v7, v8, rfl, h5, h6, h7, h8, hb⟩
  have hi : HI w1 (.agg #[.int .i64 1, .int .u64 0, .int .u64 0, .int .u64 5, .int .u64 0, v5, v6, v7, v8]) one25 := ⟨v5, v6, v7, v8, rfl, .of_R h5, .of_R h6, .of_R h7, .of_R h8⟩
  obtain ⟨a5, c5, a6, c6, a7, c7, a8, c8, e, -⟩ := hi.open_
  rw [e] at hi ⊢
  exact ⟨a5, c5, a6, c6, a7, c7, a8, c8, rfl, hi, hb⟩
theorem ints25_x (w : World) (v : Value) (hv : HI w v one25) : Calls Try.prog 27 #[v, .int .i64 0] w fun e w' => ∃ hA5 hc5 hA6 hc6 hA7 hc7 hA8 hc8, e = .returned (.tuple #[.agg #[.int .i64 0, .int .u64 0, .int .u64 0, .int .u64 5, .int .u64 0, .slice hA5 1 hc5, .slice hA6 0 hc6, .slice hA7 2 hc7, .slice hA8 0 hc8], .int .i64 0]) ∧ HI w' (.agg #[.int .i64 0, .int .u64 0, .int .u64 0, .int .u64 5, .int .u64 0, .slice hA5 1 hc5, .slice hA6 0 hc6, .slice hA7 2 hc7, .slice hA8 0 hc8]) res25 ∧ Below w.heap.size w w' := by
  have hc := scaleI_c one25 one25_wf 0 (by decide) w v hv
  rw [aw25_1] at hc
  refine hc.mono ?_
  rintro e w1 ⟨v', rfl, hh, hb⟩
  have hi := hh.now
  obtain ⟨a5, c5, a6, c6, a7, c7, a8, c8, e, -⟩ := hi.open_
  subst e
  exact ⟨a5, c5, a6, c6, a7, c7, a8, c8, rfl, hi, hb⟩
theorem ints25_y (w : World) (v : Value) (hv : HI w v one25) : Calls Try.prog 27 #[v, .int .i64 2] w fun e w' => ∃ yA5 yc5 yA6 yc6 yA7 yc7 yA8 yc8, e = .returned (.tuple #[.agg #[.int .i64 0, .int .u64 0, .int .u64 0, .int .u64 0, .int .u64 0, .slice yA5 0 yc5, .slice yA6 0 yc6, .slice yA7 0 yc7, .slice yA8 0 yc8], .int .i64 21]) ∧ Below w.heap.size w w' := by
  have hc := scaleI_c one25 one25_wf 2 (by decide) w v hv
  rw [aw25_4] at hc
  refine hc.mono ?_
  rintro e w1 ⟨v', rfl, hh, hb⟩
  have hi := hh.now
  obtain ⟨a5, c5, a6, c6, a7, c7, a8, c8, e, -⟩ := hi.open_
  subst e
  exact ⟨a5, c5, a6, c6, a7, c7, a8, c8, rfl, hb⟩
theorem sample25_x (w : World) (oA5 oA6 oA7 oA8 : Option Addr) (oc5 oc6 oc7 oc8 : Nat) : Calls Try.prog 76 #[.int .i64 7, .agg #[.int .i64 1, .int .u64 0, .int .u64 0, .int .u64 5, .int .u64 0, .slice oA5 1 oc5, .slice oA6 0 oc6, .slice oA7 3 oc7, .slice oA8 0 oc8]] w fun e w' => e = .returned (.agg #[.int .i64 7, .int .i64 0, .int .i64 1, .int .u64 0, .int .u64 0, .int .u64 5, .int .u64 0, .slice oA5 1 oc5, .slice oA6 0 oc6, .slice oA7 3 oc7, .slice oA8 0 oc8, .int .i64 0, .int .u64 0, .int .u64 0, .int .u64 0, .int .u64 0, .slice none 0 0, .slice none 0 0, .slice none 0 0, .slice none 0 0]) ∧ Below w.heap.size w w' :=
  sampleInts_c w 7 #[.int .i64 1, .int .u64 0, .int .u64 0, .int .u64 5, .int .u64 0, .slice oA5 1 oc5, .slice oA6 0 oc6, .slice oA7 3 oc7, .slice oA8 0 oc8] #[.int .i64 7, .int .i64 0, .int .i64 1, .int .u64 0, .int .u64 0, .int .u64 5, .int .u64 0, .slice oA5 1 oc5, .slice oA6 0 oc6, .slice oA7 3 oc7, .slice oA8 0 oc8, .int .i64 0, .int .u64 0, .int .u64 0, .int .u64 0, .int .u64 0, .slice none 0 0, .slice none 0 0, .slice none 0 0, .slice none 0 0] (by kernel_rfl) rfl (by kernel_rfl) rfl
theorem sub25 (oA5 oA6 oA7 oA8 : Option Addr) (oc5 oc6 oc7 oc8 : Nat) : ∀ j v, (#[.int .i64 1, .int .u64 0, .int .u64 0, .int .u64 5, .int .u64 0, .slice oA5 1 oc5, .slice oA6 0 oc6, .slice oA7 3 oc7, .slice oA8 0 oc8] : Array Value)[j]? = some v → (#[.int .i64 7, .int .i64 0, .int .i64 1, .int .u64 0, .int .u64 0, .int .u64 5, .int .u64 0, .slice oA5 1 oc5, .slice oA6 0 oc6, .slice oA7 3 oc7, .slice oA8 0 oc8, .int .i64 0, .int .u64 0, .int .u64 0, .int .u64 0, .int .u64 0, .slice none 0 0, .slice none 0 0, .slice none 0 0, .slice none 0 0] : Array Value)[2 + j]? = some v := by
  intro j v h
  match j, h with
  | 0, h => exact h
  | 1, h => exact h
  | 2, h => exact h
  | 3, h => exact h
  | 4, h => exact h
  | 5, h => exact h
  | 6, h => exact h
  | 7, h => exact h
  | 8, h => exact h
  | n + 9, h => simp at h
def resm4 : Hi := ⟨-4, 0, 0, 5, 0, [⟨1, 1⟩], [], [5], []⟩
theorem aw25_5 : scaleR one25 (-4) = (resm4, 0) := by kernel_rfl
theorem scaled25_x (w : World) (oA5 oA6 oA7 oA8 : Option Addr) (oc5 oc6 oc7 oc8 : Nat) (hv : HI w (.agg #[.int .i64 1, .int .u64 0, .int .u64 0, .int .u64 5, .int .u64 0, .slice oA5 1 oc5, .slice oA6 0 oc6, .slice oA7 3 oc7, .slice oA8 0 oc8]) one25) : Calls Try.prog 75 #[.agg #[.int .i64 7, .int .i64 0, .int .i64 1, .int .u64 0, .int .u64 0, .int .u64 5, .int .u64 0, .slice oA5 1 oc5, .slice oA6 0 oc6, .slice oA7 3 oc7, .slice oA8 0 oc8, .int .i64 0, .int .u64 0, .int .u64 0, .int .u64 0, .int .u64 0, .slice none 0 0, .slice none 0 0, .slice none 0 0, .slice none 0 0], .int .i64 (-4)] w fun e w' => ∃ (S2 : Array Value) (sA9 : Option Addr) (sc9 : Nat), e = .returned (.tuple #[.agg S2, .int .i64 0]) ∧ S2.size = 20 ∧ S2.all (·.oneCell') = true ∧ S2[0]? = some (.int .i64 7) ∧ S2[9]? = some (.slice sA9 1 sc9) ∧ Below w.heap.size w w' := by
  refine (scaleSample_c w #[.int .i64 7, .int .i64 0, .int .i64 1, .int .u64 0, .int .u64 0, .int .u64 5, .int .u64 0, .slice oA5 1 oc5, .slice oA6 0 oc6, .slice oA7 3 oc7, .slice oA8 0 oc8, .int .i64 0, .int .u64 0, .int .u64 0, .int .u64 0, .int .u64 0, .slice none 0 0, .slice none 0 0, .slice none 0 0, .slice none 0 0] #[.int .i64 1, .int .u64 0, .int .u64 0, .int .u64 5, .int .u64 0, .slice oA5 1 oc5, .slice oA6 0 oc6, .slice oA7 3 oc7, .slice oA8 0 oc8] 7 (-4) (fun S2 _ => ∃ (sA9 : Option Addr) (sc9 : Nat), S2.size = 20 ∧ S2.all (·.oneCell') = true ∧ S2[0]? = some (.int .i64 7) ∧ S2[9]? = some (.slice sA9 1 sc9)) (fun _ _ _ h _ _ => h) rfl rfl (sub25 oA5 oA6 oA7 oA8 oc5 oc6 oc7 oc8) rfl rfl ?_ ?_).mono ?_
  · intro W hb
    refine sampleCheck_c W #[.int .i64 7, .int .i64 0, .int .i64 1, .int .u64 0, .int .u64 0, .int .u64 5, .int .u64 0, .slice oA5 1 oc5, .slice oA6 0 oc6, .slice oA7 3 oc7, .slice oA8 0 oc8, .int .i64 0, .int .u64 0, .int .u64 0, .int .u64 0, .int .u64 0, .slice none 0 0, .slice none 0 0, .slice none 0 0, .slice none 0 0] #[.int .i64 1, .int .u64 0, .int .u64 0, .int .u64 5, .int .u64 0, .slice oA5 1 oc5, .slice oA6 0 oc6, .slice oA7 3 oc7, .slice oA8 0 oc8] 0 rfl (sub25 oA5 oA6 oA7 oA8 oc5 oc6 oc7 oc8) rfl ?_
    intro W' hb'
    have HC := check_c one25 one25_wf _ _ ((hv.below hb).below hb')
    rw [aw25_7] at HC
    exact HC
  · intro W hb
    have hv1 := hv.below hb
    have hc := scaleI_c one25 one25_wf (-4) (by decide) W _ hv1
    rw [aw25_5] at hc
    refine hc.mono ?_
    rintro e w1 ⟨v', rfl, hh, hb⟩
    obtain ⟨a5, d5, a6, d6, a7, d7, a8, d8, e, -⟩ := hh.now.open_
    subst e
    exact ⟨_, #[.int .i64 7, .int .i64 0, .int .i64 (-4), .int .u64 0, .int .u64 0, .int .u64 5, .int .u64 0, .slice a5 1 d5, .slice a6 0 d6, .slice a7 1 d7, .slice a8 0 d8, .int .i64 0, .int .u64 0, .int .u64 0, .int .u64 0, .int .u64 0, .slice none 0 0, .slice none 0 0, .slice none 0 0, .slice none 0 0], rfl, rfl, by kernel_rfl, by kernel_rfl, rfl, by kernel_rfl, ⟨_, _, rfl, by kernel_rfl, rfl, rfl⟩, hb⟩
  · rintro e w1 ⟨S2, rfl, ⟨sA9, sc9, q1, q2, q3, q4⟩, hb⟩
    exact ⟨S2, sA9, sc9, rfl, q1, q2, q3, q4, hb⟩
theorem place25_a (w : World) : Calls Try.prog 77 #[.int .i64 3, .int .i64 1] w fun e w' => e = .returned (.int .i64 2) ∧ Below w.heap.size w w' :=
  (scale_Place.calls 2 3 1 2 w (by kernel_rfl)).mono fun e w1 h => ⟨h.1, h.2.below⟩
theorem place25_b (w : World) : Calls Try.prog 77 #[.int .i64 (-3), .int .i64 1] w fun e w' => e = .returned (.int .i64 (-1)) ∧ Below w.heap.size w w' :=
  (scale_Place.calls 2 (-3) 1 (-1) w (by kernel_rfl)).mono fun e w1 h => ⟨h.1, h.2.below⟩
end Go.Proofs.Ytooiccpmngmapaa.P
namespace Go.Proofs.Ytooiccpmngmapaa.P
open Go.RowKit Go.Shelf Go.Proofs.YtooiccpmngmapaaW.PrintWords Go.Proofs.YtooiccpmngmapaaW.PrintLast Go.Proofs.YtooiccpmngmapaaW.PrintMore
def from25 : Fh := ⟨1, 0, 0, 4617315517961601024, 0, [⟨3, 3⟩], [], [4607182418800017408, 0, 4616189618054758400], []⟩
def fres25 : Fh := ⟨0, 0, 0, 4617315517961601024, 0, [⟨2, 2⟩], [], [4607182418800017408, 4616189618054758400], []⟩
theorem aw25_2 : fhist_From.f 1 0 0 5 0 [⟨3, 3⟩] [] [1, -1, 4] [] = some (1, 0, 0, 4617315517961601024, 0, [⟨3, 3⟩], [], [4607182418800017408, 0, 4616189618054758400], [], 0) := by kernel_rfl
theorem aw25_3 : scaleFR from25 0 = (fres25, 0) := by kernel_rfl
theorem from25_wf : wfF from25 := by unfold wfF; decide
theorem aw25_6 : scale_Fit.f 40 1 0 0 5 0 [⟨3, 3⟩] [] [1, -1, 4] [] 1 = some (-2, 0) := by kernel_rfl
theorem from25_x (w : World) (v : Value) (hv : HI w v one25) : Calls Try.prog 74 #[v] w fun e w' => ∃ fA5 fc5 fA6 fc6 fA7 fc7 fA8 fc8, e = .returned (.tuple #[.agg #[.int .i64 1, .int .u64 0, .int .u64 0, .int .u64 4617315517961601024, .int .u64 0, .slice fA5 1 fc5, .slice fA6 0 fc6, .slice fA7 3 fc7, .slice fA8 0 fc8], .int .i64 0]) ∧ GI w' (.agg #[.int .i64 1, .int .u64 0, .int .u64 0, .int .u64 4617315517961601024, .int .u64 0, .slice fA5 1 fc5, .slice fA6 0 fc6, .slice fA7 3 fc7, .slice fA8 0 fc8]) from25 ∧ Below w.heap.size w w' := by
  obtain ⟨A5, c5, A6, c6, A7, c7, A8, c8, rfl, ⟨_, _, e5, h51, h52⟩, ⟨_, _, e6, h61, h62⟩, ⟨_, _, e7, h71, h72⟩, ⟨_, _, e8, h81, h82⟩⟩ := hv.open_
  cases e5; cases e6; cases e7; cases e8
  refine (fhist_From.calls 1 0 0 5 0 A5 c5 _ A6 c6 _ A7 c7 _ A8 c8 _ _ _ _ _ _ _ _ _ _ _ w h52 h51 h62 h61 h72 h71 h82 h81 aw25_2).mono ?_
  rintro e w1 ⟨v5, v6, v7, v8, rfl, h5, h6, h7, h8, hb⟩
  have hi : GI w1 (.agg #[.int .i64 1, .int .u64 0, .int .u64 0, .int .u64 4617315517961601024, .int .u64 0, v5, v6, v7, v8]) from25 := ⟨v5, v6, v7, v8, rfl, .of_R h5, .of_R h6, .of_R h7, .of_R h8⟩
  obtain ⟨a5, c5, a6, c6, a7, c7, a8, c8, e, -⟩ := hi.open_
  rw [e] at hi ⊢
  exact ⟨a5, c5, a6, c6, a7, c7, a8, c8, rfl, hi, hb⟩
theorem floats25_x (w : World) (v : Value) (hv : GI w v from25) : Calls Try.prog 33 #[v, .int .i64 0] w fun e w' => ∃ xA5 xc5 xA6 xc6 xA7 xc7 xA8 xc8, e = .returned (.tuple #[.agg #[.int .i64 0, .int .u64 0, .int .u64 0, .int .u64 4617315517961601024, .int .u64 0, .slice xA5 1 xc5, .slice xA6 0 xc6, .slice xA7 2 xc7, .slice xA8 0 xc8], .int .i64 0]) ∧ GI w' (.agg #[.int .i64 0, .int .u64 0, .int .u64 0, .int .u64 4617315517961601024, .int .u64 0, .slice xA5 1 xc5, .slice xA6 0 xc6, .slice xA7 2 xc7, .slice xA8 0 xc8]) fres25 ∧ Below w.heap.size w w' := by
  have hc := scaleF_c from25 from25_wf 0 (by decide) w v hv
  rw [aw25_3] at hc
  refine hc.mono ?_
  rintro e w1 ⟨v', rfl, hh, hb⟩
  have hi := hh.now
  obtain ⟨a5, c5, a6, c6, a7, c7, a8, c8, e, -⟩ := hi.open_
  subst e
  exact ⟨a5, c5, a6, c6, a7, c7, a8, c8, rfl, hi, hb⟩
theorem fit25_x (w : World) (v : Value) (hv : HI w v one25) : Calls Try.prog 38 #[v, .int .i64 1] w fun e w' => e = .returned (.tuple #[.int .i64 (-2), .int .i64 0]) ∧ Below w.heap.size w w' := by
  obtain ⟨A5, c5, A6, c6, A7, c7, A8, c8, rfl, ⟨_, _, e5, h51, h52⟩, ⟨_, _, e6, h61, h62⟩, ⟨_, _, e7, h71, h72⟩, ⟨_, _, e8, h81, h82⟩⟩ := hv.open_
  cases e5; cases e6; cases e7; cases e8
  exact scale_Fit.calls 40 1 0 0 5 0 A5 c5 _ A6 c6 _ A7 c7 _ A8 c8 _ 1 _ _ w h52 h51 h62 h61 h72 h71 h82 h81 aw25_6
set_option maxHeartbeats 16000000 in
set_option maxRecDepth 100000 in
theorem awake25_c (w : World) : Calls Try.prog 26 #[] w fun e w' => e = .returned (.bool true) ∧ Below w.heap.size w w' := by
  have hu := Try.underlying29
  have hus := Try.underlying108
  have huf := Try.underlying55
  have hup := Try.underlying113
  go_enter Try.func26, Try.ntmps26
  go_wp2_with fail
  refine (one25_x w).mono ?_
  rintro e w1 ⟨oA5, oc5, oA6, oc6, oA7, oc7, oA8, oc8, rfl, hh, hb⟩
  have B := Aside0.mk hb
  have O := Aside0.mk hh
  clear hb hh
  go_wp2_with fail
  refine (ints25_x _ _ O.out).mono ?_
  rintro e w2 ⟨hA5, hc5, hA6, hc6, hA7, hc7, hA8, hc8, rfl, hh, hb⟩
  replace B := Aside0.mk (below_then B.out B.out.size hb)
  replace O := Aside0.mk (O.out.below hb)
  have Hh := Aside0.mk hh
  clear hb hh
  go_wp2_with fail
  refine (one25_x _).mono ?_
  rintro e w3 ⟨pA5, pc5, pA6, pc6, pA7, pc7, pA8, pc8, rfl, hh, hb⟩
  have hb0 := hb
  have hb := below_then (below_alloc (Below.refl w2.heap.size w2) (.cells #[.int .i64 0, .int .u64 0, .int .u64 0, .int .u64 5, .int .u64 0, .slice hA5 1 hc5, .slice hA6 0 hc6, .slice hA7 2 hc7, .slice hA8 0 hc8] 29)) ((below_alloc (Below.refl w2.heap.size w2) (.cells #[.int .i64 0, .int .u64 0, .int .u64 0, .int .u64 5, .int .u64 0, .slice hA5 1 hc5, .slice hA6 0 hc6, .slice hA7 2 hc7, .slice hA8 0 hc8] 29))).size hb
  replace B := Aside0.mk (below_then B.out B.out.size hb)
  replace O := Aside0.mk (O.out.below hb)
  replace Hh := Aside0.mk (Hh.out.below hb)
  have T1 := Aside0.mk (show Blk w3 w2.heap.size #[.int .i64 0, .int .u64 0, .int .u64 0, .int .u64 5, .int .u64 0, .slice hA5 1 hc5, .slice hA6 0 hc6, .slice hA7 2 hc7, .slice hA8 0 hc8] 29 from (Blk.new w2 #[.int .i64 0, .int .u64 0, .int .u64 0, .int .u64 5, .int .u64 0, .slice hA5 1 hc5, .slice hA6 0 hc6, .slice hA7 2 hc7, .slice hA8 0 hc8] 29).below hb0)
  have ht1 := fun i => T1.out.cell i
  have P := Aside0.mk hh
  clear hb hb0 hh
  go_wp2_with fail
  refine (from25_x _ _ P.out).mono ?_
  rintro e w4 ⟨fA5, fc5, fA6, fc6, fA7, fc7, fA8, fc8, rfl, hh, hb⟩
  replace B := Aside0.mk (below_then B.out B.out.size hb)
  replace O := Aside0.mk (O.out.below hb)
  replace Hh := Aside0.mk (Hh.out.below hb)
  replace P := Aside0.mk (P.out.below hb)
  replace T1 := Aside0.mk (T1.out.below hb)
  replace ht1 := fun i => T1.out.cell i
  have Ff := Aside0.mk hh
  clear hb hh
  have ht3 := fun i => (Blk.new w4 #[.int .i64 1, .int .u64 0, .int .u64 0, .int .u64 4617315517961601024, .int .u64 0, .slice fA5 1 fc5, .slice fA6 0 fc6, .slice fA7 3 fc7, .slice fA8 0 fc8] 55).cell i
  go_wp2_with fail
  refine (floats25_x _ _ (Ff.out.below (below_alloc (Below.refl w4.heap.size w4) (.cells #[.int .i64 1, .int .u64 0, .int .u64 0, .int .u64 4617315517961601024, .int .u64 0, .slice fA5 1 fc5, .slice fA6 0 fc6, .slice fA7 3 fc7, .slice fA8 0 fc8] 55)))).mono ?_
  rintro e w5 ⟨xA5, xc5, xA6, xc6, xA7, xc7, xA8, xc8, rfl, hh, hb⟩
  have hb0 := hb
  have hb := below_then (below_alloc (Below.refl w4.heap.size w4) (.cells #[.int .i64 1, .int .u64 0, .int .u64 0, .int .u64 4617315517961601024, .int .u64 0, .slice fA5 1 fc5, .slice fA6 0 fc6, .slice fA7 3 fc7, .slice fA8 0 fc8] 55)) ((below_alloc (Below.refl w4.heap.size w4) (.cells #[.int .i64 1, .int .u64 0, .int .u64 0, .int .u64 4617315517961601024, .int .u64 0, .slice fA5 1 fc5, .slice fA6 0 fc6, .slice fA7 3 fc7, .slice fA8 0 fc8] 55))).size hb
  replace B := Aside0.mk (below_then B.out B.out.size hb)
  replace O := Aside0.mk (O.out.below hb)
  replace Hh := Aside0.mk (Hh.out.below hb)
  replace P := Aside0.mk (P.out.below hb)
  replace Ff := Aside0.mk (Ff.out.below hb)
  replace T1 := Aside0.mk (T1.out.below hb)
  replace ht1 := fun i => T1.out.cell i
  clear hb hb0
  clear hh ht3
  go_wp2_with fail
  refine (one25_x _).mono ?_
  rintro e w6 ⟨qA5, qc5, qA6, qc6, qA7, qc7, qA8, qc8, rfl, hh, hb⟩
  have hb0 := hb
  have hb := below_then (below_alloc (Below.refl w5.heap.size w5) (.cells #[.int .i64 0, .int .u64 0, .int .u64 0, .int .u64 4617315517961601024, .int .u64 0, .slice xA5 1 xc5, .slice xA6 0 xc6, .slice xA7 2 xc7, .slice xA8 0 xc8] 55)) ((below_alloc (Below.refl w5.heap.size w5) (.cells #[.int .i64 0, .int .u64 0, .int .u64 0, .int .u64 4617315517961601024, .int .u64 0, .slice xA5 1 xc5, .slice xA6 0 xc6, .slice xA7 2 xc7, .slice xA8 0 xc8] 55))).size hb
  replace B := Aside0.mk (below_then B.out B.out.size hb)
  replace O := Aside0.mk (O.out.below hb)
  replace Hh := Aside0.mk (Hh.out.below hb)
  replace P := Aside0.mk (P.out.below hb)
  replace Ff := Aside0.mk (Ff.out.below hb)
  replace T1 := Aside0.mk (T1.out.below hb)
  replace ht1 := fun i => T1.out.cell i
  have T5 := Aside0.mk (show Blk w6 w5.heap.size #[.int .i64 0, .int .u64 0, .int .u64 0, .int .u64 4617315517961601024, .int .u64 0, .slice xA5 1 xc5, .slice xA6 0 xc6, .slice xA7 2 xc7, .slice xA8 0 xc8] 55 from (Blk.new w5 #[.int .i64 0, .int .u64 0, .int .u64 0, .int .u64 4617315517961601024, .int .u64 0, .slice xA5 1 xc5, .slice xA6 0 xc6, .slice xA7 2 xc7, .slice xA8 0 xc8] 55).below hb0)
  have ht5 := fun i => T5.out.cell i
  have Q := Aside0.mk hh
  clear hb hb0 hh
  go_wp2_with fail
  refine (ints25_y _ _ Q.out).mono ?_
  rintro e w7 ⟨yA5, yc5, yA6, yc6, yA7, yc7, yA8, yc8, rfl, hb⟩
  replace B := Aside0.mk (below_then B.out B.out.size hb)
  replace O := Aside0.mk (O.out.below hb)
  replace Hh := Aside0.mk (Hh.out.below hb)
  replace P := Aside0.mk (P.out.below hb)
  replace Ff := Aside0.mk (Ff.out.below hb)
  replace Q := Aside0.mk (Q.out.below hb)
  replace T1 := Aside0.mk (T1.out.below hb)
  replace ht1 := fun i => T1.out.cell i
  replace T5 := Aside0.mk (T5.out.below hb)
  replace ht5 := fun i => T5.out.cell i
  clear hb
  go_wp2_with fail
  refine (one25_x _).mono ?_
  rintro e w8 ⟨rA5, rc5, rA6, rc6, rA7, rc7, rA8, rc8, rfl, hh, hb⟩
  have hb0 := hb
  have hb := below_then (below_alloc (Below.refl w7.heap.size w7) (.cells #[.int .i64 0, .int .u64 0, .int .u64 0, .int .u64 0, .int .u64 0, .slice yA5 0 yc5, .slice yA6 0 yc6, .slice yA7 0 yc7, .slice yA8 0 yc8] 29)) ((below_alloc (Below.refl w7.heap.size w7) (.cells #[.int .i64 0, .int .u64 0, .int .u64 0, .int .u64 0, .int .u64 0, .slice yA5 0 yc5, .slice yA6 0 yc6, .slice yA7 0 yc7, .slice yA8 0 yc8] 29))).size hb
  replace B := Aside0.mk (below_then B.out B.out.size hb)
  replace O := Aside0.mk (O.out.below hb)
  replace Hh := Aside0.mk (Hh.out.below hb)
  replace P := Aside0.mk (P.out.below hb)
  replace Ff := Aside0.mk (Ff.out.below hb)
  replace Q := Aside0.mk (Q.out.below hb)
  replace T1 := Aside0.mk (T1.out.below hb)
  replace ht1 := fun i => T1.out.cell i
  replace T5 := Aside0.mk (T5.out.below hb)
  replace ht5 := fun i => T5.out.cell i
  have R := Aside0.mk hh
  clear hb hb0 hh
  go_wp2_with fail
  refine (sample25_x _ rA5 rA6 rA7 rA8 rc5 rc6 rc7 rc8).mono ?_
  rintro e w9 ⟨rfl, hb⟩
  replace B := Aside0.mk (below_then B.out B.out.size hb)
  replace O := Aside0.mk (O.out.below hb)
  replace Hh := Aside0.mk (Hh.out.below hb)
  replace P := Aside0.mk (P.out.below hb)
  replace Ff := Aside0.mk (Ff.out.below hb)
  replace Q := Aside0.mk (Q.out.below hb)
  replace R := Aside0.mk (R.out.below hb)
  replace T1 := Aside0.mk (T1.out.below hb)
  replace ht1 := fun i => T1.out.cell i
  replace T5 := Aside0.mk (T5.out.below hb)
  replace ht5 := fun i => T5.out.cell i
  clear hb
  go_wp2_with fail
  refine (scaled25_x _ rA5 rA6 rA7 rA8 rc5 rc6 rc7 rc8 R.out).mono ?_
  rintro e w10 ⟨S2, sA9, sc9, rfl, q1, q2, q3, q4, hb⟩
  replace B := Aside0.mk (below_then B.out B.out.size hb)
  replace O := Aside0.mk (O.out.below hb)
  replace Hh := Aside0.mk (Hh.out.below hb)
  replace P := Aside0.mk (P.out.below hb)
  replace Ff := Aside0.mk (Ff.out.below hb)
  replace Q := Aside0.mk (Q.out.below hb)
  replace R := Aside0.mk (R.out.below hb)
  replace T1 := Aside0.mk (T1.out.below hb)
  replace ht1 := fun i => T1.out.cell i
  replace T5 := Aside0.mk (T5.out.below hb)
  replace ht5 := fun i => T5.out.cell i
  clear hb
  have Q1 := Aside0.mk q1
  have Q2 := Aside0.mk q2
  clear q1 q2
  have N1 := Aside0.mk (heap_alloc_new w10 (.cells #[.int .i64 0, .int .i64 0, .int .i64 0, .int .u64 0, .int .u64 0, .int .u64 0, .int .u64 0, .slice none 0 0, .slice none 0 0, .slice none 0 0, .slice none 0 0, .int .i64 0, .int .u64 0, .int .u64 0, .int .u64 0, .int .u64 0, .slice none 0 0, .slice none 0 0, .slice none 0 0, .slice none 0 0] 108))
  go_wp2_with (refine wpList_store_row rfl 108 (.tmp 9) (.tmp 37) rfl w10.heap.size S2 rfl rfl 108 _ N1.out (by rw [Q1.out]; kernel_rfl) (by rw [Q1.out]; rfl) Q2.out ?_; rw [World.setRow_alloc_new])
  refine (one25_x _).mono ?_
  rintro e w11 ⟨uA5, uc5, uA6, uc6, uA7, uc7, uA8, uc8, rfl, hh, hb⟩
  have hb0 := hb
  have hb := below_then (below_alloc (Below.refl w10.heap.size w10) (.cells S2 108)) ((below_alloc (Below.refl w10.heap.size w10) (.cells S2 108))).size hb
  replace B := Aside0.mk (below_then B.out B.out.size hb)
  replace O := Aside0.mk (O.out.below hb)
  replace Hh := Aside0.mk (Hh.out.below hb)
  replace P := Aside0.mk (P.out.below hb)
  replace Ff := Aside0.mk (Ff.out.below hb)
  replace Q := Aside0.mk (Q.out.below hb)
  replace R := Aside0.mk (R.out.below hb)
  replace T1 := Aside0.mk (T1.out.below hb)
  replace ht1 := fun i => T1.out.cell i
  replace T5 := Aside0.mk (T5.out.below hb)
  replace ht5 := fun i => T5.out.cell i
  have T9 := Aside0.mk (show Blk w11 w10.heap.size S2 108 from (Blk.new w10 S2 108).below hb0)
  have ht9 := fun i => T9.out.cell i
  have U := Aside0.mk hh
  clear hb hb0 hh
  go_wp2_with fail
  refine (fit25_x _ _ U.out).mono ?_
  rintro e w12 ⟨rfl, hb⟩
  replace B := Aside0.mk (below_then B.out B.out.size hb)
  replace O := Aside0.mk (O.out.below hb)
  replace Hh := Aside0.mk (Hh.out.below hb)
  replace P := Aside0.mk (P.out.below hb)
  replace Ff := Aside0.mk (Ff.out.below hb)
  replace Q := Aside0.mk (Q.out.below hb)
  replace R := Aside0.mk (R.out.below hb)
  replace U := Aside0.mk (U.out.below hb)
  replace T1 := Aside0.mk (T1.out.below hb)
  replace ht1 := fun i => T1.out.cell i
  replace T5 := Aside0.mk (T5.out.below hb)
  replace ht5 := fun i => T5.out.cell i
  replace T9 := Aside0.mk (T9.out.below hb)
  replace ht9 := fun i => T9.out.cell i
  clear hb
  obtain ⟨_, _, e5, _, hC5⟩ := (HI.at57 Hh.out).1
  cases e5
  obtain ⟨ad5, e1, hx0, hx1⟩ := at_T113 hC5 0 (by decide) (by decide)
  subst e1
  obtain ⟨_, _, e7, _, hC7⟩ := (HI.at57 Hh.out).2
  cases e7
  obtain ⟨ad7, e2, hx7⟩ := Kd.at_int hC7 1 (by decide) (by decide)
  subst e2
  have hx0' : w12.cell? ad5 = some (.int .i64 2) := hx0
  have hx7' : w12.cell? ⟨ad7.block, ad7.off + 1, none⟩ = some (.int .i64 3) := hx7
  have PA := Aside0.mk place25_a
  have PB := Aside0.mk place25_b
  go_wp2_with (first | (go_at_call 77; (with_reducible first | refine (PA.out _).mono ?_ | refine (PB.out _).mono ?_); rintro e w20 ⟨rfl, hb⟩; replace B := Aside0.mk (below_then B.out B.out.size hb); clear hb))
  go_ret
  exact ⟨rfl, B.out⟩
end Go.Proofs.Ytooiccpmngmapaa.P
namespace Go.Proofs.Ytooiccpmngmapaa.P
open Go.RowKit Go.Shelf Go.Proofs.YtooiccpmngmapaaW.PrintWords Go.Proofs.YtooiccpmngmapaaW.PrintLast Go.Proofs.YtooiccpmngmapaaW.PrintMore
def wideGo (s : Int) : Int → List Int → List Int
  | cur, [] => [cur]
  | cur, p :: t => if placeR p s = cur then wideGo s cur t else cur :: wideGo s (placeR p s) t
def wideR (s : Int) : List Int → List Int
  | [] => []
  | p :: t => wideGo s (placeR p s) t
end Go.Proofs.Ytooiccpmngmapaa.P
namespace Go.Proofs.Ytooiccpmngmapaa.P
open Go.RowKit Go.Shelf Go.Proofs.YtooiccpmngmapaaW.PrintWords Go.Proofs.YtooiccpmngmapaaW.PrintLast Go.Proofs.YtooiccpmngmapaaW.PrintMore
theorem rd_last (done : List Int) (cur : Int) (h : done.length < 4611686018427387904) : wrap64 (((done ++ [cur]).length : Int) - 1) = (done.length : Int) ∧ rd (done ++ [cur]) (done.length : Int) = cur := by
  refine ⟨by rw [wrap_id (by simp <;> omega) (by simp <;> omega)]; simp, ?_⟩
  rw [rd_at (by simp)]; simp
theorem refWide_loop (pl : List Int) (s : Int) (hp : ∀ x ∈ pl, i64 x) (hm : pl.length ≤ 4096) : ∀ (d k i : Nat) (done : List Int) (cur : Int), pl.length - i = d → d + 67 ≤ k → i ≤ pl.length → done.length < i →
    tidepoleref25_wide.l0 k pl s (done ++ [cur]) (i : Int) = some (done ++ wideGo s cur (pl.drop i)) := by
  intro d
  induction d with
  | zero =>
    intro k i done cur hd hk hi hdl
    obtain ⟨k, rfl⟩ : ∃ m, k = m + 1 := ⟨k - 1, by omega⟩
    rw [tidepoleref25_wide.l0, if_neg (by omega), List.drop_eq_nil_of_le (by omega)]
    rfl
  | succ d ih =>
    intro k i done cur hd hk hi hdl
    obtain ⟨k, rfl⟩ : ∃ m, k = m + 1 := ⟨k - 1, by omega⟩
    have hlt : i < pl.length := by omega
    obtain ⟨w1, w2⟩ := rd_last done cur (by omega)
    have hlen : ((done ++ [cur]).length : Int) = (done.length : Int) + 1 := by simp
    rw [tidepoleref25_wide.l0, if_pos (by omega), if_pos (by omega), rd_at hlt, refPlace_f _ (by omega) _ _ (hp _ (List.getElem_mem hlt)), Option.bind_some, if_neg (by omega), w1, w2, if_pos (by omega), if_pos (by omega)]
    rw [List.drop_eq_getElem_cons hlt, wideGo, wrap_succ (by omega)]
    by_cases c : placeR pl[i] s = cur
    · rw [if_pos c.symm, if_pos c]
      exact ih k (i + 1) done cur (by omega) (by omega) (by omega) (by omega)
    · rw [if_neg (fun h => c h.symm), if_neg c, if_pos (by simp <;> omega)]
      rw [ih k (i + 1) (done ++ [cur]) (placeR pl[i] s) (by omega) (by omega) (by omega) (by simp <;> omega)]
      simp
theorem refWide_eq (pl : List Int) (s : Int) (hp : ∀ x ∈ pl, i64 x) (hm : pl.length ≤ 4096) (k : Nat) (hk : pl.length + 68 ≤ k) : tidepoleref25_wide.f k pl s = some (wideR s pl) := by
  unfold tidepoleref25_wide.f
  obtain ⟨k, rfl⟩ : ∃ m, k = m + 1 := ⟨k - 1, by omega⟩
  cases pl with
  | nil => rw [tidepoleref25_wide.l0, if_neg (by simp)]; rfl
  | cons p t =>
    have h0 : rd (p :: t) 0 = p := rfl
    rw [tidepoleref25_wide.l0, if_pos (by simp <;> omega), if_pos (by omega), h0, refPlace_f _ (by omega) _ _ (hp _ (by simp)), Option.bind_some, if_pos (show (([] : List Int).length : Int) = 0 from rfl), if_pos (by simp)]
    rw [show wrap64 (0 + 1) = ((1 : Nat) : Int) from by unfold wrap64; omega]
    have := refWide_loop (p :: t) s hp hm t.length k 1 [] (placeR p s) (by simp) (by simp at hk; omega) (by simp) (by simp)
    exact this
theorem wideGo_len (s : Int) : ∀ (l : List Int) (cur : Int), (wideGo s cur l).length ≤ l.length + 1
  | [], _ => by simp [wideGo]
  | p :: t, cur => by
    simp only [wideGo]
    split
    · have := wideGo_len s t cur; simp; omega
    · have := wideGo_len s t (placeR p s); simp; omega
theorem wideR_len (s : Int) (l : List Int) : (wideR s l).length ≤ l.length := by
  cases l with
  | nil => simp [wideR]
  | cons p t => have := wideGo_len s t (placeR p s); simp [wideR]; omega
end Go.Proofs.Ytooiccpmngmapaa.P
