/- HistCanon: the part that this text bears of the proof that the statement answers true for every input. No condition. -/
import Derived.Test.YtacgeafjilipdaaProg
import Derived.Below
import Derived.Deep.Draws
import Derived.Deep.AppendLies
import Derived.Maps.AppendAt
import Derived.OwnWalk
import Derived.Laws.BytesArg
import Derived.Laws.MakeOwn
import Derived.Laws.OwnMore
import Derived.Deep.OwnRows
import Derived.Tactics
import Derived.Lib.ConvBytes
import Derived.Laws.Slices
import Derived.WalkKit
import Derived.KernelRfl
import Derived.RowKit3
import Derived.Deep.LoopGhost
import Derived.Deep.QuietTactic
import Derived.BigQuiet
import Derived.WideLaws
import Derived.Deep.DeepCutAuto
import Derived.Deep.CutBlock
import Derived.Deep.RegionHeld3
import Derived.Laws.Rows
import Derived.Lib.AppendStr
import Derived.ArgAppend
import Derived.Laws.IdiomCopy
import Derived.OrdersHeld
import Derived.Laws.BitsLemmas
import Derived.RowKit
import Derived.Deep.Slices
import Derived.ChangeArms
import Derived.Shelf.Abstract
import Derived.WalkSpells
import Derived.RangeFuncNested
import Derived.RangeFuncBound
import Derived.RangeFuncCalls
import Derived.RangeFuncLeaves
import Derived.RangeFuncBox
import Derived.OwnWalkIn
import Derived.TacticsInMore
import Derived.LoopNIn
import Derived.LoopIn
import Derived.Laws.Externs
import Derived.Shelf.Spec.BitsCarry
import Derived.RegionIn
import Derived.Sort.QuietTacIn
import Derived.Deep.RegionWith
import Derived.Laws.BitsAllLaws
import Derived.ProofKit
import Derived.JoinedOf
import Derived.OpenShut
import Derived.ShutString
import Derived.ChangeOld
import Derived.SizedLaws
import Derived.Test.YtacgeafjilipdaaQHistCanonWWords
import Derived.Test.YtacgeafjilipdaaQHistCanonWLast
import Derived.Test.YtacgeafjilipdaaQHistCanonWTab
import Derived.Test.YtacgeafjilipdaaQHistCanonWFour
import Derived.Test.YtacgeafjilipdaaQHistCanonWQPut
import Derived.Test.YtacgeafjilipdaaQHistCanonWApart
import Derived.Test.YtacgeafjilipdaaQHistCanonWArr
import Derived.Test.YtacgeafjilipdaaQHistCanonWZeros
import Derived.Test.YtacgeafjilipdaaQHistCanonWFoot
import Derived.Test.YtacgeafjilipdaaQHistCanonWKept
import Derived.Test.YtacgeafjilipdaaQHistCanonWShare
import Derived.Test.YtacgeafjilipdaaQHistCanonWN
import Derived.Test.YtacgeafjilipdaaQHistCanonWFootNe
import Derived.Test.YtacgeafjilipdaaQHistCanonWAt
import Derived.Test.YtacgeafjilipdaaQHistCanonWEqStruct
import Derived.Test.YtacgeafjilipdaaQHistCanonWRepsOne
import Derived.Test.YtacgeafjilipdaaQHistCanonWInv
import Derived.Test.YtacgeafjilipdaaQHistCanonWInvWords
import Derived.Test.YtacgeafjilipdaaQHistCanonWGuard
import Derived.Test.YtacgeafjilipdaaQHistCanonWNEv
import Derived.Test.YtacgeafjilipdaaQHistCanonWMore
import Derived.Test.YtacgeafjilipdaaRows
import Derived.Test.YtacgeafjilipdaaQHistCanon0
import Derived.Test.YtacgeafjilipdaaQHistCanon1
import Derived.Test.YtacgeafjilipdaaQHistCanon2
namespace Go.Proofs.Ytacgeafjilipdaa.P
open Go.RowKit Go.Shelf Go.Proofs.YtacgeafjilipdaaW.PrintWords Go.Proofs.YtacgeafjilipdaaW.PrintLast Go.Proofs.YtacgeafjilipdaaW.PrintMore
set_option linter.unusedVariables false
set_option linter.unusedSimpArgs false
theorem SI.V {w : World} {e : Nat} {A : Option Addr} {c : Nat} {l : List Int} (hc : l.length ≤ c) (hr : (Kd.int .i64).C w A l.length l) : Kd.V (Kd.int .i64) e w w.heap.size (fun k_ => (fun k => k < w.heap.size) k_) (.slice A l.length c) l := ⟨_, _, rfl, hc, Kd.C_F (Kd.heap_int .i64) hr⟩
theorem SI.of_V {e : Nat} {w : World} {base : Nat} {ok : Nat → Prop} {v : Value} {l : List Int} (h : Kd.V (Kd.int .i64) e w base ok v l) : SI (Kd.int .i64) w v l := by
  obtain ⟨A, c, rfl, hc, hf⟩ := h
  exact .of (hf w (fun _ _ _ => rfl)) hc
theorem ref_c (h : Hi) (h5 : h.f5.length < 8796093022208) (h6 : h.f6.length < 8796093022208) (w : World) (v : Value) (hv : HI w v h) : Calls Try.prog 71 #[v] w fun e w' =>
    ∃ v', e = .returned v' ∧ HR w' v' h ∧ Below w.heap.size w w' := by
  obtain ⟨A5, c5, A6, c6, A7, c7, A8, c8, rfl, ⟨_, _, e5, h51, h52⟩, ⟨_, _, e6, h61, h62⟩, ⟨_, _, e7, h71, h72⟩, ⟨_, _, e8, h81, h82⟩⟩ := hv.open_
  cases e5; cases e6; cases e7; cases e8
  obtain ⟨k, hk⟩ : ∃ k, k = h.f5.length + h.f6.length + 1 := ⟨_, rfl⟩
  refine (tidepolelaw09_ref.calls k h.f0 h.f1 h.f2 h.f3 h.f4 A5 c5 h.f5 A6 c6 h.f6 _ A7 c7 h.f7 _ A8 c8 h.f8 h.f0 h.f1 h.f2 h.f3 h.f4 (h.f5.map toR) (h.f6.map toR) h.f7 h.f8 w h52 h51 h62 h61 (SI.V h71 h72) (SI.V h81 h82) ?_).mono ?_
  · unfold tidepolelaw09_ref.f
    rw [spans09_eq _ h5 k (by omega), Option.bind_some, spans09_eq _ h6 k (by omega), Option.bind_some]
  · rintro e w1 ⟨v5, v6, v7, v8, rfl, i5, i6, i7, i8, hb⟩
    exact ⟨_, rfl, ⟨v5, v6, v7, v8, rfl, .of_R i5, .of_R i6, .of_V i7, .of_V i8⟩, hb⟩
theorem refHead_c (s z : Int) (w : World) : Calls Try.prog 75 #[.int .i64 s, .int .u64 z] w fun e w' => e = .returned (.int .i64 (if s < -4 ∨ s > 8 then 21 else if ¬ z < 9218868437227405312 then 11 else 0)) ∧ Below w.heap.size w w' :=
  (tidepoleref09_Head.calls 1 s z _ w (refHead_eq s z 1 (by omega))).mono fun e w1 h => ⟨h.1, h.2.below⟩
theorem refSide_c (l : List Sp) (d : List Int) (hl : wfSps l) (hd : i64s d) (hm : d.length < 4398046511104) (w : World) (u v : Value) (hu : SI kRsp w u (l.map toR)) (hv : SI (Kd.int .i64) w v d) : Calls Try.prog 77 #[u, v] w fun e w' =>
    ∃ v0 v1 : Value, e = .returned (.tuple #[v0, v1, .int .i64 (sideRef l d).2.2]) ∧ SI (Kd.int .i64) w' v0 (sideRef l d).1 ∧ SI (Kd.int .i64) w' v1 (sideRef l d).2.1 ∧ Below w.heap.size w w' := by
  obtain ⟨A, c, rfl, hc, hr⟩ := hu
  obtain ⟨D, g, rfl, hg, hs⟩ := hv
  refine (tidepoleref09_Side.calls (5120001 + d.length) A c _ D g d _ _ _ w hr hc hs hg (refSide_eq l d hl hd hm _ (by omega))).mono ?_
  rintro e w1 ⟨v0, v1, rfl, h0, h1, hb⟩
  exact ⟨v0, v1, rfl, .of_R h0, .of_R h1, hb⟩
theorem refFits_c (zc ct sm : Int) (p n : List Pr) (hz : u64 zc) (hc : u64 ct) (hs : u64 sm) (hp : ∀ x ∈ p, 0 ≤ x.f1 ∧ x.f1 ≤ 9223372036854775807) (hn : ∀ x ∈ n, 0 ≤ x.f1 ∧ x.f1 ≤ 9223372036854775807) (hpm : p.length < 17592186044416) (hnm : n.length < 17592186044416) (w : World) (u v : Value) (hu : SI (Kd.int .i64) w u (p.map (·.f1))) (hv : SI (Kd.int .i64) w v (n.map (·.f1))) :
    Calls Try.prog 138 #[.int .u64 zc, .int .u64 ct, .int .u64 sm, u, v] w fun e w' => e = .returned (.int .i64 (if fits zc ct sm p n = true then 0 else 22)) ∧ Below w.heap.size w w' := by
  obtain ⟨A, c, rfl, hc1, hr⟩ := hu
  obtain ⟨D, g, rfl, hg, hs1⟩ := hv
  exact tidepoleref09_Fits.calls (p.length + n.length + 11) zc ct sm _ A c _ _ D g _ _ w (SI.V hc1 hr) (SI.V hg hs1) (refFits_eq zc ct sm p n hz hc hs hp hn hpm hnm _ (by omega))
theorem refSame_c (a b : List Pr) (ha : a.length < 17592186044416) (hb : b.length < 17592186044416) (w : World) (u0 u1 v0 v1 : Value) (h0 : SI (Kd.int .i64) w u0 (a.map (·.f0))) (h1 : SI (Kd.int .i64) w u1 (a.map (·.f1))) (h2 : SI (Kd.int .i64) w v0 (b.map (·.f0))) (h3 : SI (Kd.int .i64) w v1 (b.map (·.f1))) :
    Calls Try.prog 150 #[u0, u1, v0, v1] w fun e w' => e = .returned (.bool (agrees a b && agrees b a)) ∧ Below w.heap.size w w' := by
  obtain ⟨A, c, rfl, hc1, hr1⟩ := h0
  obtain ⟨A1, d1, rfl, hc2, hr2⟩ := h1
  obtain ⟨A2, d2, rfl, hc3, hr3⟩ := h2
  obtain ⟨A3, d3, rfl, hc4, hr4⟩ := h3
  exact (tidepoleref09_Same.calls (2 * a.length + b.length + 2) A c _ A1 d1 _ A2 d2 _ A3 d3 _ _ w hr1 hc1 hr2 hc2 hr3 hc3 hr4 hc4 (refSame09_eq a b ha hb _ (by omega))).mono fun e w1 h => ⟨h.1, h.2.below⟩
def headE (h : Hi) : Int := if h.f0 < -4 ∨ h.f0 > 8 then 21 else if ¬ h.f1 < 9218868437227405312 then 11 else 0
theorem checkR_eq (h : Hi) : checkR h = if headE h ≠ 0 then headE h else if (sideRes h.f5 h.f7).2 ≠ 0 then (sideRes h.f5 h.f7).2 else if (sideRes h.f6 h.f8).2 ≠ 0 then (sideRes h.f6 h.f8).2 else if fits h.f2 h.f3 h.f4 (sideRes h.f5 h.f7).1 (sideRes h.f6 h.f8).1 = true then 0 else 22 := by
  unfold checkR openR openRes headE
  by_cases c1 : h.f0 < -4 ∨ h.f0 > 8
  · rw [if_pos c1, if_pos c1, if_pos (by omega)]
  rw [if_neg c1, if_neg c1]
  by_cases c2 : ¬ h.f1 < 9218868437227405312
  · rw [if_pos c2, if_pos c2, if_pos (by omega)]
  rw [if_neg c2, if_neg c2, if_neg (c := (0 : Int) ≠ 0) (by omega)]
  by_cases c3 : (sideRes h.f5 h.f7).2 ≠ 0
  · rw [if_pos c3, if_pos c3]
  rw [if_neg c3, if_neg c3]
  by_cases c4 : (sideRes h.f6 h.f8).2 ≠ 0
  · rw [if_pos c4, if_pos c4]
  rw [if_neg c4, if_neg c4]
  by_cases c5 : fits h.f2 h.f3 h.f4 (sideRes h.f5 h.f7).1 (sideRes h.f6 h.f8).1 = true
  · rw [if_pos c5, if_pos c5]
  · rw [if_neg c5, if_neg c5]
theorem openR_right {h : Hi} (hc : checkR h = 0) : openR h = ((sideRes h.f5 h.f7).1, (sideRes h.f6 h.f8).1, 0) := by
  unfold checkR openR openRes at *
  split at hc
  · cases hc
  split at hc
  · cases hc
  split at hc
  · rename_i h3; exact absurd hc h3
  split at hc
  · rename_i h3; exact absurd hc h3
  split at hc
  · rename_i h1 h2 h3 h4 h5; rw [if_neg h1, if_neg h2, if_neg h3, if_neg h4, if_pos h5]
  · cases hc
set_option maxHeartbeats 8000000 in
set_option maxRecDepth 100000 in
theorem refCheck_c (h : Hi) (hw : wfH h) (w : World) (v : Value) (hv : HR w v h) : Calls Try.prog 57 #[v] w fun e w' => e = .returned (.int .i64 (checkR h)) ∧ Below w.heap.size w w' := by
  have hu := Try.underlying72
  have ch := refHead_c h.f0 h.f1
  rw [show (if h.f0 < -4 ∨ h.f0 > 8 then (21 : Int) else if ¬ h.f1 < 9218868437227405312 then 11 else 0) = headE h from rfl] at ch
  obtain ⟨w0, w1, w2, w3, w4, w5, w6, w7, w8, w9, w10⟩ := hw
  have s5 := refSide_c h.f5 h.f7 w5 w7 w9
  have s6 := refSide_c h.f6 h.f8 w6 w8 w10
  have r5 := sideRes_row (l := h.f5) w7
  have r6 := sideRes_row (l := h.f6) w8
  have cf := refFits_c h.f2 h.f3 h.f4 (sideRes h.f5 h.f7).1 (sideRes h.f6 h.f8).1 w2 w3 w4 (fun x hx => (r5.cnt x hx).2) (fun x hx => (r6.cnt x hx).2) (by have := r5.len; omega) (by have := r6.len; omega)
  have HC := checkR_eq h
  clear w0 w1 w2 w3 w4 w5 w6 w7 w8 w9 w10 r5 r6
  unfold sideRef at s5 s6
  generalize fits h.f2 h.f3 h.f4 (sideRes h.f5 h.f7).1 (sideRes h.f6 h.f8).1 = ft at *
  generalize sideRes h.f5 h.f7 = q5 at *
  generalize sideRes h.f6 h.f8 = q6 at *
  generalize headE h = he at *
  generalize checkR h = r at *
  obtain ⟨p, e5⟩ := q5
  obtain ⟨n, e6⟩ := q6
  simp only at s5 s6 HC
  have CH := Aside0.mk ch
  have C5 := Aside0.mk s5
  have C6 := Aside0.mk s6
  have CF := Aside0.mk cf
  clear ch s5 s6 cf
  obtain ⟨A5, c5, A6, c6, A7, c7, A8, c8, e, h5, h6, h7, h8⟩ := hv.open_
  subst e
  have B := Aside0.mk (below_alloc (Below.refl w.heap.size w) (.cells #[.int .i64 h.f0, .int .u64 h.f1, .int .u64 h.f2, .int .u64 h.f3, .int .u64 h.f4, .slice A5 h.f5.length c5, .slice A6 h.f6.length c6, .slice A7 h.f7.length c7, .slice A8 h.f8.length c8] 72))
  have X := Aside0.mk (Blk.new w #[.int .i64 h.f0, .int .u64 h.f1, .int .u64 h.f2, .int .u64 h.f3, .int .u64 h.f4, .slice A5 h.f5.length c5, .slice A6 h.f6.length c6, .slice A7 h.f7.length c7, .slice A8 h.f8.length c8] 72)
  have hx := fun i => X.out.cell i
  have H5 := Aside0.mk (h5.below B.out)
  have H6 := Aside0.mk (h6.below B.out)
  have H7 := Aside0.mk (h7.below B.out)
  have H8 := Aside0.mk (h8.below B.out)
  clear hv h5 h6 h7 h8
  by_cases c1 : he = 0
  rotate_left
  · rw [if_pos c1] at HC
    subst HC
    have d1 : (r != 0) = true := bne_iff_ne.2 c1
    clear c1
    go_enter Try.func57, Try.ntmps57
    go_wp2_with (first | (go_at_call 75; (with_reducible refine (CH.out _).mono ?_); rintro e W ⟨rfl, hb⟩; replace B := Aside0.mk (below_then B.out B.out.size hb); replace H5 := Aside0.mk (H5.out.below hb); replace H6 := Aside0.mk (H6.out.below hb); replace H7 := Aside0.mk (H7.out.below hb); replace H8 := Aside0.mk (H8.out.below hb); replace X := Aside0.mk (X.out.below hb); replace hx := fun i => X.out.cell i; clear  hb))
    go_ret
    exact ⟨rfl, B.out⟩
  subst c1
  rw [if_neg (by simp)] at HC
  by_cases c2 : e5 = 0
  rotate_left
  · rw [if_pos c2] at HC
    subst HC
    have d2 : (r != 0) = true := bne_iff_ne.2 c2
    clear c2
    go_enter Try.func57, Try.ntmps57
    go_wp2_with (first | (go_at_call 75; (with_reducible refine (CH.out _).mono ?_); rintro e W ⟨rfl, hb⟩; replace B := Aside0.mk (below_then B.out B.out.size hb); replace H5 := Aside0.mk (H5.out.below hb); replace H6 := Aside0.mk (H6.out.below hb); replace H7 := Aside0.mk (H7.out.below hb); replace H8 := Aside0.mk (H8.out.below hb); replace X := Aside0.mk (X.out.below hb); replace hx := fun i => X.out.cell i; clear  hb) | (go_at_call 77; (with_reducible refine (C5.out _ _ _ H5.out H7.out).mono ?_); rintro e W ⟨v0, v1, rfl, h0, h1, hb⟩; replace B := Aside0.mk (below_then B.out B.out.size hb); replace H5 := Aside0.mk (H5.out.below hb); replace H6 := Aside0.mk (H6.out.below hb); replace H7 := Aside0.mk (H7.out.below hb); replace H8 := Aside0.mk (H8.out.below hb); replace X := Aside0.mk (X.out.below hb); replace hx := fun i => X.out.cell i; have P5 := Aside0.mk h0; have V5 := Aside0.mk h1; clear h0 h1 hb))
    go_ret
    exact ⟨rfl, B.out⟩
  subst c2
  rw [if_neg (by simp)] at HC
  by_cases c3 : e6 = 0
  rotate_left
  · rw [if_pos c3] at HC
    subst HC
    have d3 : (r != 0) = true := bne_iff_ne.2 c3
    clear c3
    go_enter Try.func57, Try.ntmps57
    go_wp2_with (first | (go_at_call 75; (with_reducible refine (CH.out _).mono ?_); rintro e W ⟨rfl, hb⟩; replace B := Aside0.mk (below_then B.out B.out.size hb); replace H5 := Aside0.mk (H5.out.below hb); replace H6 := Aside0.mk (H6.out.below hb); replace H7 := Aside0.mk (H7.out.below hb); replace H8 := Aside0.mk (H8.out.below hb); replace X := Aside0.mk (X.out.below hb); replace hx := fun i => X.out.cell i; clear  hb) | (go_at_call 77; (with_reducible refine (C5.out _ _ _ H5.out H7.out).mono ?_); rintro e W ⟨v0, v1, rfl, h0, h1, hb⟩; replace B := Aside0.mk (below_then B.out B.out.size hb); replace H5 := Aside0.mk (H5.out.below hb); replace H6 := Aside0.mk (H6.out.below hb); replace H7 := Aside0.mk (H7.out.below hb); replace H8 := Aside0.mk (H8.out.below hb); replace X := Aside0.mk (X.out.below hb); replace hx := fun i => X.out.cell i; have P5 := Aside0.mk h0; have V5 := Aside0.mk h1; clear h0 h1 hb) | (go_at_call 77; (with_reducible refine (C6.out _ _ _ H6.out H8.out).mono ?_); rintro e W ⟨v2, v3, rfl, h0, h1, hb⟩; replace B := Aside0.mk (below_then B.out B.out.size hb); replace H5 := Aside0.mk (H5.out.below hb); replace H6 := Aside0.mk (H6.out.below hb); replace H7 := Aside0.mk (H7.out.below hb); replace H8 := Aside0.mk (H8.out.below hb); replace P5 := Aside0.mk (P5.out.below hb); replace V5 := Aside0.mk (V5.out.below hb); replace X := Aside0.mk (X.out.below hb); replace hx := fun i => X.out.cell i; have P6 := Aside0.mk h0; have V6 := Aside0.mk h1; clear h0 h1 hb))
    go_ret
    exact ⟨rfl, B.out⟩
  subst c3
  rw [if_neg (by simp)] at HC
  rw [← HC] at CF
  clear HC
  go_enter Try.func57, Try.ntmps57
  go_wp2_with (first | (go_at_call 75; (with_reducible refine (CH.out _).mono ?_); rintro e W ⟨rfl, hb⟩; replace B := Aside0.mk (below_then B.out B.out.size hb); replace H5 := Aside0.mk (H5.out.below hb); replace H6 := Aside0.mk (H6.out.below hb); replace H7 := Aside0.mk (H7.out.below hb); replace H8 := Aside0.mk (H8.out.below hb); replace X := Aside0.mk (X.out.below hb); replace hx := fun i => X.out.cell i; clear  hb) | (go_at_call 77; (with_reducible refine (C5.out _ _ _ H5.out H7.out).mono ?_); rintro e W ⟨v0, v1, rfl, h0, h1, hb⟩; replace B := Aside0.mk (below_then B.out B.out.size hb); replace H5 := Aside0.mk (H5.out.below hb); replace H6 := Aside0.mk (H6.out.below hb); replace H7 := Aside0.mk (H7.out.below hb); replace H8 := Aside0.mk (H8.out.below hb); replace X := Aside0.mk (X.out.below hb); replace hx := fun i => X.out.cell i; have P5 := Aside0.mk h0; have V5 := Aside0.mk h1; clear h0 h1 hb) | (go_at_call 77; (with_reducible refine (C6.out _ _ _ H6.out H8.out).mono ?_); rintro e W ⟨v2, v3, rfl, h0, h1, hb⟩; replace B := Aside0.mk (below_then B.out B.out.size hb); replace H5 := Aside0.mk (H5.out.below hb); replace H6 := Aside0.mk (H6.out.below hb); replace H7 := Aside0.mk (H7.out.below hb); replace H8 := Aside0.mk (H8.out.below hb); replace P5 := Aside0.mk (P5.out.below hb); replace V5 := Aside0.mk (V5.out.below hb); replace X := Aside0.mk (X.out.below hb); replace hx := fun i => X.out.cell i; have P6 := Aside0.mk h0; have V6 := Aside0.mk h1; clear h0 h1 hb) | (go_at_call 138; (with_reducible refine (CF.out _ _ _ V5.out V6.out).mono ?_); rintro e W ⟨rfl, hb⟩; replace B := Aside0.mk (below_then B.out B.out.size hb); replace H5 := Aside0.mk (H5.out.below hb); replace H6 := Aside0.mk (H6.out.below hb); replace H7 := Aside0.mk (H7.out.below hb); replace H8 := Aside0.mk (H8.out.below hb); replace P5 := Aside0.mk (P5.out.below hb); replace V5 := Aside0.mk (V5.out.below hb); replace P6 := Aside0.mk (P6.out.below hb); replace V6 := Aside0.mk (V6.out.below hb); replace X := Aside0.mk (X.out.below hb); replace hx := fun i => X.out.cell i; clear  hb))
  go_ret
  exact ⟨rfl, B.out⟩
set_option maxHeartbeats 16000000 in
set_option maxRecDepth 100000 in
theorem refEqual_c (a b : Hi) (hwa : wfH a) (hwb : wfH b) (w : World) (u v : Value) (hu : HR w u a) (hv : HR w v b) : Calls Try.prog 81 #[u, v] w fun e w' =>
    e = .returned (.bool (equalR a b)) ∧ Below w.heap.size w w' := by
  have hud := Try.underlying72
  have ka := refCheck_c a hwa
  have kb := refCheck_c b hwb
  have ra := sideRes_row (l := a.f5) hwa.2.2.2.2.2.2.2.1
  have rb := sideRes_row (l := b.f5) hwb.2.2.2.2.2.2.2.1
  have na := sideRes_row (l := a.f6) hwa.2.2.2.2.2.2.2.2.1
  have nb := sideRes_row (l := b.f6) hwb.2.2.2.2.2.2.2.2.1
  have c1 := refSide_c a.f5 a.f7 hwa.2.2.2.2.2.1 hwa.2.2.2.2.2.2.2.1 hwa.2.2.2.2.2.2.2.2.2.1
  have c2 := refSide_c b.f5 b.f7 hwb.2.2.2.2.2.1 hwb.2.2.2.2.2.2.2.1 hwb.2.2.2.2.2.2.2.2.2.1
  have c3 := refSide_c a.f6 a.f8 hwa.2.2.2.2.2.2.1 hwa.2.2.2.2.2.2.2.2.1 hwa.2.2.2.2.2.2.2.2.2.2
  have c4 := refSide_c b.f6 b.f8 hwb.2.2.2.2.2.2.1 hwb.2.2.2.2.2.2.2.2.1 hwb.2.2.2.2.2.2.2.2.2.2
  have m1 := refSame_c (sideRes a.f5 a.f7).1 (sideRes b.f5 b.f7).1 (by have := ra.len; omega) (by have := rb.len; omega)
  have m2 := refSame_c (sideRes a.f6 a.f8).1 (sideRes b.f6 b.f8).1 (by have := na.len; omega) (by have := nb.len; omega)
  rw [agrees_iff ra.ups rb.ups] at m1
  rw [agrees_iff na.ups nb.ups] at m2
  have hr0 : checkR a = 0 → checkR b = 0 → (decide (some0 (openR a).1 = some0 (openR b).1) && decide (some0 (openR a).2.1 = some0 (openR b).2.1)) = (decide (some0 (sideRes a.f5 a.f7).1 = some0 (sideRes b.f5 b.f7).1) && decide (some0 (sideRes a.f6 a.f8).1 = some0 (sideRes b.f6 b.f8).1)) := fun h1 h2 => by rw [openR_right h1, openR_right h2]
  clear hwa hwb ra rb na nb
  obtain ⟨r, hr⟩ : ∃ r, r = equalR a b := ⟨_, rfl⟩
  rw [← hr]
  unfold equalR at hr
  generalize (decide (some0 (openR a).1 = some0 (openR b).1) && decide (some0 (openR a).2.1 = some0 (openR b).2.1)) = bb at *
  generalize decide (some0 (sideRes a.f5 a.f7).1 = some0 (sideRes b.f5 b.f7).1) = b1 at *
  generalize decide (some0 (sideRes a.f6 a.f8).1 = some0 (sideRes b.f6 b.f8).1) = b2 at *
  unfold sideRef at c1 c2 c3 c4
  generalize sideRes a.f5 a.f7 = q1 at *
  generalize sideRes b.f5 b.f7 = q2 at *
  generalize sideRes a.f6 a.f8 = q3 at *
  generalize sideRes b.f6 b.f8 = q4 at *
  generalize checkR a = ea at *
  generalize checkR b = eb at *
  have HR := Aside0.mk hr
  have H0 := Aside0.mk hr0
  have KA := Aside0.mk ka
  have KB := Aside0.mk kb
  have C1 := Aside0.mk c1
  have C2 := Aside0.mk c2
  have C3 := Aside0.mk c3
  have C4 := Aside0.mk c4
  have M1 := Aside0.mk m1
  have M2 := Aside0.mk m2
  clear hr hr0 ka kb c1 c2 c3 c4 m1 m2
  obtain ⟨A5a, c5a, A6a, c6a, A7a, c7a, A8a, c8a, e, a5, a6, a7, a8⟩ := hu.open_
  subst e
  obtain ⟨A5b, c5b, A6b, c6b, A7b, c7b, A8b, c8b, e, b5, b6, b7, b8⟩ := hv.open_
  subst e
  have B := Aside0.mk (below_alloc (below_alloc (Below.refl w.heap.size w) (.cells #[.int .i64 a.f0, .int .u64 a.f1, .int .u64 a.f2, .int .u64 a.f3, .int .u64 a.f4, .slice A5a a.f5.length c5a, .slice A6a a.f6.length c6a, .slice A7a a.f7.length c7a, .slice A8a a.f8.length c8a] 72)) (.cells #[.int .i64 b.f0, .int .u64 b.f1, .int .u64 b.f2, .int .u64 b.f3, .int .u64 b.f4, .slice A5b b.f5.length c5b, .slice A6b b.f6.length c6b, .slice A7b b.f7.length c7b, .slice A8b b.f8.length c8b] 72))
  have X := Aside0.mk ((Blk.new w #[.int .i64 a.f0, .int .u64 a.f1, .int .u64 a.f2, .int .u64 a.f3, .int .u64 a.f4, .slice A5a a.f5.length c5a, .slice A6a a.f6.length c6a, .slice A7a a.f7.length c7a, .slice A8a a.f8.length c8a] 72).alloc (.cells #[.int .i64 b.f0, .int .u64 b.f1, .int .u64 b.f2, .int .u64 b.f3, .int .u64 b.f4, .slice A5b b.f5.length c5b, .slice A6b b.f6.length c6b, .slice A7b b.f7.length c7b, .slice A8b b.f8.length c8b] 72))
  have Y := Aside0.mk (Blk.at1 (w := w) (.cells #[.int .i64 a.f0, .int .u64 a.f1, .int .u64 a.f2, .int .u64 a.f3, .int .u64 a.f4, .slice A5a a.f5.length c5a, .slice A6a a.f6.length c6a, .slice A7a a.f7.length c7a, .slice A8a a.f8.length c8a] 72) #[.int .i64 b.f0, .int .u64 b.f1, .int .u64 b.f2, .int .u64 b.f3, .int .u64 b.f4, .slice A5b b.f5.length c5b, .slice A6b b.f6.length c6b, .slice A7b b.f7.length c7b, .slice A8b b.f8.length c8b] 72)
  have hx := fun i => X.out.cell i
  have hy := fun i => Y.out.cell i
  have HA := Aside0.mk (hu.below B.out)
  have HB := Aside0.mk (hv.below B.out)
  have S5 := Aside0.mk (a5.below B.out)
  have S6 := Aside0.mk (a6.below B.out)
  have S7 := Aside0.mk (a7.below B.out)
  have S8 := Aside0.mk (a8.below B.out)
  have T5 := Aside0.mk (b5.below B.out)
  have T6 := Aside0.mk (b6.below B.out)
  have T7 := Aside0.mk (b7.below B.out)
  have T8 := Aside0.mk (b8.below B.out)
  clear hu hv a5 a6 a7 a8 b5 b6 b7 b8
  by_cases c1 : ea = 0
  rotate_left
  · have hr : r = false := by rw [HR.out, decide_eq_false c1]; simp
    subst hr
    have c1a : (ea != 0) = true := bne_iff_ne.2 c1
    clear c1
    go_enter Try.func81, Try.ntmps81
    go_wp2_with (first | (go_at_call 57; (with_reducible refine (KA.out _ _ HA.out).mono ?_); rintro e W ⟨rfl, hb⟩; replace B := Aside0.mk (below_then B.out B.out.size hb); replace HA := Aside0.mk (HA.out.below hb); replace HB := Aside0.mk (HB.out.below hb); replace S5 := Aside0.mk (S5.out.below hb); replace S6 := Aside0.mk (S6.out.below hb); replace S7 := Aside0.mk (S7.out.below hb); replace S8 := Aside0.mk (S8.out.below hb); replace T5 := Aside0.mk (T5.out.below hb); replace T6 := Aside0.mk (T6.out.below hb); replace T7 := Aside0.mk (T7.out.below hb); replace T8 := Aside0.mk (T8.out.below hb); replace X := Aside0.mk (X.out.below hb); replace hx := fun i => X.out.cell i; replace Y := Aside0.mk (Y.out.below hb); replace hy := fun i => Y.out.cell i; clear  hb))
    go_ret
    exact ⟨rfl, B.out⟩
  subst c1
  by_cases c2 : eb = 0
  rotate_left
  · have hr : r = false := by rw [HR.out, decide_eq_false c2]; simp
    subst hr
    have c2a : (eb != 0) = true := bne_iff_ne.2 c2
    clear c2
    go_enter Try.func81, Try.ntmps81
    go_wp2_with (first | (go_at_call 57; (with_reducible refine (KA.out _ _ HA.out).mono ?_); rintro e W ⟨rfl, hb⟩; replace B := Aside0.mk (below_then B.out B.out.size hb); replace HA := Aside0.mk (HA.out.below hb); replace HB := Aside0.mk (HB.out.below hb); replace S5 := Aside0.mk (S5.out.below hb); replace S6 := Aside0.mk (S6.out.below hb); replace S7 := Aside0.mk (S7.out.below hb); replace S8 := Aside0.mk (S8.out.below hb); replace T5 := Aside0.mk (T5.out.below hb); replace T6 := Aside0.mk (T6.out.below hb); replace T7 := Aside0.mk (T7.out.below hb); replace T8 := Aside0.mk (T8.out.below hb); replace X := Aside0.mk (X.out.below hb); replace hx := fun i => X.out.cell i; replace Y := Aside0.mk (Y.out.below hb); replace hy := fun i => Y.out.cell i; clear  hb) | (go_at_call 57; (with_reducible refine (KB.out _ _ HB.out).mono ?_); rintro e W ⟨rfl, hb⟩; replace B := Aside0.mk (below_then B.out B.out.size hb); replace HA := Aside0.mk (HA.out.below hb); replace HB := Aside0.mk (HB.out.below hb); replace S5 := Aside0.mk (S5.out.below hb); replace S6 := Aside0.mk (S6.out.below hb); replace S7 := Aside0.mk (S7.out.below hb); replace S8 := Aside0.mk (S8.out.below hb); replace T5 := Aside0.mk (T5.out.below hb); replace T6 := Aside0.mk (T6.out.below hb); replace T7 := Aside0.mk (T7.out.below hb); replace T8 := Aside0.mk (T8.out.below hb); replace X := Aside0.mk (X.out.below hb); replace hx := fun i => X.out.cell i; replace Y := Aside0.mk (Y.out.below hb); replace hy := fun i => Y.out.cell i; clear  hb))
    go_ret
    exact ⟨rfl, B.out⟩
  subst c2
  by_cases e0 : a.f0 = b.f0
  rotate_left
  · have hn : ¬ sameNums a b := fun h => e0 h.1
    have hr : r = false := by rw [HR.out, decide_eq_false hn]; simp
    subst hr
    have d0 : (a.f0 != b.f0) = true := bne_iff_ne.2 e0
    clear hn e0
    go_enter Try.func81, Try.ntmps81
    go_wp2_with (first | (go_at_call 57; (with_reducible refine (KA.out _ _ HA.out).mono ?_); rintro e W ⟨rfl, hb⟩; replace B := Aside0.mk (below_then B.out B.out.size hb); replace HA := Aside0.mk (HA.out.below hb); replace HB := Aside0.mk (HB.out.below hb); replace S5 := Aside0.mk (S5.out.below hb); replace S6 := Aside0.mk (S6.out.below hb); replace S7 := Aside0.mk (S7.out.below hb); replace S8 := Aside0.mk (S8.out.below hb); replace T5 := Aside0.mk (T5.out.below hb); replace T6 := Aside0.mk (T6.out.below hb); replace T7 := Aside0.mk (T7.out.below hb); replace T8 := Aside0.mk (T8.out.below hb); replace X := Aside0.mk (X.out.below hb); replace hx := fun i => X.out.cell i; replace Y := Aside0.mk (Y.out.below hb); replace hy := fun i => Y.out.cell i; clear  hb) | (go_at_call 57; (with_reducible refine (KB.out _ _ HB.out).mono ?_); rintro e W ⟨rfl, hb⟩; replace B := Aside0.mk (below_then B.out B.out.size hb); replace HA := Aside0.mk (HA.out.below hb); replace HB := Aside0.mk (HB.out.below hb); replace S5 := Aside0.mk (S5.out.below hb); replace S6 := Aside0.mk (S6.out.below hb); replace S7 := Aside0.mk (S7.out.below hb); replace S8 := Aside0.mk (S8.out.below hb); replace T5 := Aside0.mk (T5.out.below hb); replace T6 := Aside0.mk (T6.out.below hb); replace T7 := Aside0.mk (T7.out.below hb); replace T8 := Aside0.mk (T8.out.below hb); replace X := Aside0.mk (X.out.below hb); replace hx := fun i => X.out.cell i; replace Y := Aside0.mk (Y.out.below hb); replace hy := fun i => Y.out.cell i; clear  hb))
    go_ret
    exact ⟨rfl, B.out⟩
  by_cases e1 : a.f1 = b.f1
  rotate_left
  · have hn : ¬ sameNums a b := fun h => e1 h.2.1
    have hr : r = false := by rw [HR.out, decide_eq_false hn]; simp
    subst hr
    have d0 : (a.f0 != b.f0) = false := by rw [e0]; simp
    have d1 : (a.f1 != b.f1) = true := bne_iff_ne.2 e1
    clear hn e0 e1
    go_enter Try.func81, Try.ntmps81
    go_wp2_with (first | (go_at_call 57; (with_reducible refine (KA.out _ _ HA.out).mono ?_); rintro e W ⟨rfl, hb⟩; replace B := Aside0.mk (below_then B.out B.out.size hb); replace HA := Aside0.mk (HA.out.below hb); replace HB := Aside0.mk (HB.out.below hb); replace S5 := Aside0.mk (S5.out.below hb); replace S6 := Aside0.mk (S6.out.below hb); replace S7 := Aside0.mk (S7.out.below hb); replace S8 := Aside0.mk (S8.out.below hb); replace T5 := Aside0.mk (T5.out.below hb); replace T6 := Aside0.mk (T6.out.below hb); replace T7 := Aside0.mk (T7.out.below hb); replace T8 := Aside0.mk (T8.out.below hb); replace X := Aside0.mk (X.out.below hb); replace hx := fun i => X.out.cell i; replace Y := Aside0.mk (Y.out.below hb); replace hy := fun i => Y.out.cell i; clear  hb) | (go_at_call 57; (with_reducible refine (KB.out _ _ HB.out).mono ?_); rintro e W ⟨rfl, hb⟩; replace B := Aside0.mk (below_then B.out B.out.size hb); replace HA := Aside0.mk (HA.out.below hb); replace HB := Aside0.mk (HB.out.below hb); replace S5 := Aside0.mk (S5.out.below hb); replace S6 := Aside0.mk (S6.out.below hb); replace S7 := Aside0.mk (S7.out.below hb); replace S8 := Aside0.mk (S8.out.below hb); replace T5 := Aside0.mk (T5.out.below hb); replace T6 := Aside0.mk (T6.out.below hb); replace T7 := Aside0.mk (T7.out.below hb); replace T8 := Aside0.mk (T8.out.below hb); replace X := Aside0.mk (X.out.below hb); replace hx := fun i => X.out.cell i; replace Y := Aside0.mk (Y.out.below hb); replace hy := fun i => Y.out.cell i; clear  hb))
    go_ret
    exact ⟨rfl, B.out⟩
  by_cases e2 : a.f2 = b.f2
  rotate_left
  · have hn : ¬ sameNums a b := fun h => e2 h.2.2.1
    have hr : r = false := by rw [HR.out, decide_eq_false hn]; simp
    subst hr
    have d0 : (a.f0 != b.f0) = false := by rw [e0]; simp
    have d1 : (a.f1 != b.f1) = false := by rw [e1]; simp
    have d2 : (a.f2 != b.f2) = true := bne_iff_ne.2 e2
    clear hn e0 e1 e2
    go_enter Try.func81, Try.ntmps81
    go_wp2_with (first | (go_at_call 57; (with_reducible refine (KA.out _ _ HA.out).mono ?_); rintro e W ⟨rfl, hb⟩; replace B := Aside0.mk (below_then B.out B.out.size hb); replace HA := Aside0.mk (HA.out.below hb); replace HB := Aside0.mk (HB.out.below hb); replace S5 := Aside0.mk (S5.out.below hb); replace S6 := Aside0.mk (S6.out.below hb); replace S7 := Aside0.mk (S7.out.below hb); replace S8 := Aside0.mk (S8.out.below hb); replace T5 := Aside0.mk (T5.out.below hb); replace T6 := Aside0.mk (T6.out.below hb); replace T7 := Aside0.mk (T7.out.below hb); replace T8 := Aside0.mk (T8.out.below hb); replace X := Aside0.mk (X.out.below hb); replace hx := fun i => X.out.cell i; replace Y := Aside0.mk (Y.out.below hb); replace hy := fun i => Y.out.cell i; clear  hb) | (go_at_call 57; (with_reducible refine (KB.out _ _ HB.out).mono ?_); rintro e W ⟨rfl, hb⟩; replace B := Aside0.mk (below_then B.out B.out.size hb); replace HA := Aside0.mk (HA.out.below hb); replace HB := Aside0.mk (HB.out.below hb); replace S5 := Aside0.mk (S5.out.below hb); replace S6 := Aside0.mk (S6.out.below hb); replace S7 := Aside0.mk (S7.out.below hb); replace S8 := Aside0.mk (S8.out.below hb); replace T5 := Aside0.mk (T5.out.below hb); replace T6 := Aside0.mk (T6.out.below hb); replace T7 := Aside0.mk (T7.out.below hb); replace T8 := Aside0.mk (T8.out.below hb); replace X := Aside0.mk (X.out.below hb); replace hx := fun i => X.out.cell i; replace Y := Aside0.mk (Y.out.below hb); replace hy := fun i => Y.out.cell i; clear  hb))
    go_ret
    exact ⟨rfl, B.out⟩
  by_cases e3 : a.f3 = b.f3
  rotate_left
  · have hn : ¬ sameNums a b := fun h => e3 h.2.2.2.1
    have hr : r = false := by rw [HR.out, decide_eq_false hn]; simp
    subst hr
    have d0 : (a.f0 != b.f0) = false := by rw [e0]; simp
    have d1 : (a.f1 != b.f1) = false := by rw [e1]; simp
    have d2 : (a.f2 != b.f2) = false := by rw [e2]; simp
    have d3 : (a.f3 != b.f3) = true := bne_iff_ne.2 e3
    clear hn e0 e1 e2 e3
    go_enter Try.func81, Try.ntmps81
    go_wp2_with (first | (go_at_call 57; (with_reducible refine (KA.out _ _ HA.out).mono ?_); rintro e W ⟨rfl, hb⟩; replace B := Aside0.mk (below_then B.out B.out.size hb); replace HA := Aside0.mk (HA.out.below hb); replace HB := Aside0.mk (HB.out.below hb); replace S5 := Aside0.mk (S5.out.below hb); replace S6 := Aside0.mk (S6.out.below hb); replace S7 := Aside0.mk (S7.out.below hb); replace S8 := Aside0.mk (S8.out.below hb); replace T5 := Aside0.mk (T5.out.below hb); replace T6 := Aside0.mk (T6.out.below hb); replace T7 := Aside0.mk (T7.out.below hb); replace T8 := Aside0.mk (T8.out.below hb); replace X := Aside0.mk (X.out.below hb); replace hx := fun i => X.out.cell i; replace Y := Aside0.mk (Y.out.below hb); replace hy := fun i => Y.out.cell i; clear  hb) | (go_at_call 57; (with_reducible refine (KB.out _ _ HB.out).mono ?_); rintro e W ⟨rfl, hb⟩; replace B := Aside0.mk (below_then B.out B.out.size hb); replace HA := Aside0.mk (HA.out.below hb); replace HB := Aside0.mk (HB.out.below hb); replace S5 := Aside0.mk (S5.out.below hb); replace S6 := Aside0.mk (S6.out.below hb); replace S7 := Aside0.mk (S7.out.below hb); replace S8 := Aside0.mk (S8.out.below hb); replace T5 := Aside0.mk (T5.out.below hb); replace T6 := Aside0.mk (T6.out.below hb); replace T7 := Aside0.mk (T7.out.below hb); replace T8 := Aside0.mk (T8.out.below hb); replace X := Aside0.mk (X.out.below hb); replace hx := fun i => X.out.cell i; replace Y := Aside0.mk (Y.out.below hb); replace hy := fun i => Y.out.cell i; clear  hb))
    go_ret
    exact ⟨rfl, B.out⟩
  by_cases e4 : a.f4 = b.f4
  rotate_left
  · have hn : ¬ sameNums a b := fun h => e4 h.2.2.2.2
    have hr : r = false := by rw [HR.out, decide_eq_false hn]; simp
    subst hr
    have d0 : (a.f0 != b.f0) = false := by rw [e0]; simp
    have d1 : (a.f1 != b.f1) = false := by rw [e1]; simp
    have d2 : (a.f2 != b.f2) = false := by rw [e2]; simp
    have d3 : (a.f3 != b.f3) = false := by rw [e3]; simp
    have d4 : (a.f4 != b.f4) = true := bne_iff_ne.2 e4
    clear hn e0 e1 e2 e3 e4
    go_enter Try.func81, Try.ntmps81
    go_wp2_with (first | (go_at_call 57; (with_reducible refine (KA.out _ _ HA.out).mono ?_); rintro e W ⟨rfl, hb⟩; replace B := Aside0.mk (below_then B.out B.out.size hb); replace HA := Aside0.mk (HA.out.below hb); replace HB := Aside0.mk (HB.out.below hb); replace S5 := Aside0.mk (S5.out.below hb); replace S6 := Aside0.mk (S6.out.below hb); replace S7 := Aside0.mk (S7.out.below hb); replace S8 := Aside0.mk (S8.out.below hb); replace T5 := Aside0.mk (T5.out.below hb); replace T6 := Aside0.mk (T6.out.below hb); replace T7 := Aside0.mk (T7.out.below hb); replace T8 := Aside0.mk (T8.out.below hb); replace X := Aside0.mk (X.out.below hb); replace hx := fun i => X.out.cell i; replace Y := Aside0.mk (Y.out.below hb); replace hy := fun i => Y.out.cell i; clear  hb) | (go_at_call 57; (with_reducible refine (KB.out _ _ HB.out).mono ?_); rintro e W ⟨rfl, hb⟩; replace B := Aside0.mk (below_then B.out B.out.size hb); replace HA := Aside0.mk (HA.out.below hb); replace HB := Aside0.mk (HB.out.below hb); replace S5 := Aside0.mk (S5.out.below hb); replace S6 := Aside0.mk (S6.out.below hb); replace S7 := Aside0.mk (S7.out.below hb); replace S8 := Aside0.mk (S8.out.below hb); replace T5 := Aside0.mk (T5.out.below hb); replace T6 := Aside0.mk (T6.out.below hb); replace T7 := Aside0.mk (T7.out.below hb); replace T8 := Aside0.mk (T8.out.below hb); replace X := Aside0.mk (X.out.below hb); replace hx := fun i => X.out.cell i; replace Y := Aside0.mk (Y.out.below hb); replace hy := fun i => Y.out.cell i; clear  hb))
    go_ret
    exact ⟨rfl, B.out⟩
  have HS := Aside0.mk (show sameNums a b from ⟨e0, e1, e2, e3, e4⟩)
  have d0 : (a.f0 != b.f0) = false := by rw [e0]; simp
  have d1 : (a.f1 != b.f1) = false := by rw [e1]; simp
  have d2 : (a.f2 != b.f2) = false := by rw [e2]; simp
  have d3 : (a.f3 != b.f3) = false := by rw [e3]; simp
  have d4 : (a.f4 != b.f4) = false := by rw [e4]; simp
  clear e0 e1 e2 e3 e4
  have hr : r = (b1 && b2) := by rw [HR.out, decide_eq_true HS.out, H0.out rfl rfl]; simp
  cases b1 with
  | false =>
    rw [Bool.false_and] at hr
    subst hr
    go_enter Try.func81, Try.ntmps81
    go_wp2_with (first | (go_at_call 57; (with_reducible refine (KA.out _ _ HA.out).mono ?_); rintro e W ⟨rfl, hb⟩; replace B := Aside0.mk (below_then B.out B.out.size hb); replace HA := Aside0.mk (HA.out.below hb); replace HB := Aside0.mk (HB.out.below hb); replace S5 := Aside0.mk (S5.out.below hb); replace S6 := Aside0.mk (S6.out.below hb); replace S7 := Aside0.mk (S7.out.below hb); replace S8 := Aside0.mk (S8.out.below hb); replace T5 := Aside0.mk (T5.out.below hb); replace T6 := Aside0.mk (T6.out.below hb); replace T7 := Aside0.mk (T7.out.below hb); replace T8 := Aside0.mk (T8.out.below hb); replace X := Aside0.mk (X.out.below hb); replace hx := fun i => X.out.cell i; replace Y := Aside0.mk (Y.out.below hb); replace hy := fun i => Y.out.cell i; clear  hb) | (go_at_call 57; (with_reducible refine (KB.out _ _ HB.out).mono ?_); rintro e W ⟨rfl, hb⟩; replace B := Aside0.mk (below_then B.out B.out.size hb); replace HA := Aside0.mk (HA.out.below hb); replace HB := Aside0.mk (HB.out.below hb); replace S5 := Aside0.mk (S5.out.below hb); replace S6 := Aside0.mk (S6.out.below hb); replace S7 := Aside0.mk (S7.out.below hb); replace S8 := Aside0.mk (S8.out.below hb); replace T5 := Aside0.mk (T5.out.below hb); replace T6 := Aside0.mk (T6.out.below hb); replace T7 := Aside0.mk (T7.out.below hb); replace T8 := Aside0.mk (T8.out.below hb); replace X := Aside0.mk (X.out.below hb); replace hx := fun i => X.out.cell i; replace Y := Aside0.mk (Y.out.below hb); replace hy := fun i => Y.out.cell i; clear  hb) | (go_at_call 77; (with_reducible refine (C1.out _ _ _ S5.out S7.out).mono ?_); rintro e W ⟨v0, v1, rfl, h0, h1, hb⟩; replace B := Aside0.mk (below_then B.out B.out.size hb); replace HA := Aside0.mk (HA.out.below hb); replace HB := Aside0.mk (HB.out.below hb); replace S5 := Aside0.mk (S5.out.below hb); replace S6 := Aside0.mk (S6.out.below hb); replace S7 := Aside0.mk (S7.out.below hb); replace S8 := Aside0.mk (S8.out.below hb); replace T5 := Aside0.mk (T5.out.below hb); replace T6 := Aside0.mk (T6.out.below hb); replace T7 := Aside0.mk (T7.out.below hb); replace T8 := Aside0.mk (T8.out.below hb); replace X := Aside0.mk (X.out.below hb); replace hx := fun i => X.out.cell i; replace Y := Aside0.mk (Y.out.below hb); replace hy := fun i => Y.out.cell i; have P1 := Aside0.mk h0; have V1 := Aside0.mk h1; clear h0 h1 hb) | (go_at_call 77; (with_reducible refine (C2.out _ _ _ T5.out T7.out).mono ?_); rintro e W ⟨v2, v3, rfl, h0, h1, hb⟩; replace B := Aside0.mk (below_then B.out B.out.size hb); replace HA := Aside0.mk (HA.out.below hb); replace HB := Aside0.mk (HB.out.below hb); replace S5 := Aside0.mk (S5.out.below hb); replace S6 := Aside0.mk (S6.out.below hb); replace S7 := Aside0.mk (S7.out.below hb); replace S8 := Aside0.mk (S8.out.below hb); replace T5 := Aside0.mk (T5.out.below hb); replace T6 := Aside0.mk (T6.out.below hb); replace T7 := Aside0.mk (T7.out.below hb); replace T8 := Aside0.mk (T8.out.below hb); replace P1 := Aside0.mk (P1.out.below hb); replace V1 := Aside0.mk (V1.out.below hb); replace X := Aside0.mk (X.out.below hb); replace hx := fun i => X.out.cell i; replace Y := Aside0.mk (Y.out.below hb); replace hy := fun i => Y.out.cell i; have P2 := Aside0.mk h0; have V2 := Aside0.mk h1; clear h0 h1 hb) | (go_at_call 150; (with_reducible refine (M1.out _ _ _ _ _ P1.out V1.out P2.out V2.out).mono ?_); rintro e W ⟨rfl, hb⟩; replace B := Aside0.mk (below_then B.out B.out.size hb); replace HA := Aside0.mk (HA.out.below hb); replace HB := Aside0.mk (HB.out.below hb); replace S5 := Aside0.mk (S5.out.below hb); replace S6 := Aside0.mk (S6.out.below hb); replace S7 := Aside0.mk (S7.out.below hb); replace S8 := Aside0.mk (S8.out.below hb); replace T5 := Aside0.mk (T5.out.below hb); replace T6 := Aside0.mk (T6.out.below hb); replace T7 := Aside0.mk (T7.out.below hb); replace T8 := Aside0.mk (T8.out.below hb); replace P1 := Aside0.mk (P1.out.below hb); replace V1 := Aside0.mk (V1.out.below hb); replace P2 := Aside0.mk (P2.out.below hb); replace V2 := Aside0.mk (V2.out.below hb); replace X := Aside0.mk (X.out.below hb); replace hx := fun i => X.out.cell i; replace Y := Aside0.mk (Y.out.below hb); replace hy := fun i => Y.out.cell i; clear  hb))
    go_ret
    exact ⟨rfl, B.out⟩
  | true =>
    rw [Bool.true_and] at hr
    subst hr
    go_enter Try.func81, Try.ntmps81
    go_wp2_with (first | (go_at_call 57; (with_reducible refine (KA.out _ _ HA.out).mono ?_); rintro e W ⟨rfl, hb⟩; replace B := Aside0.mk (below_then B.out B.out.size hb); replace HA := Aside0.mk (HA.out.below hb); replace HB := Aside0.mk (HB.out.below hb); replace S5 := Aside0.mk (S5.out.below hb); replace S6 := Aside0.mk (S6.out.below hb); replace S7 := Aside0.mk (S7.out.below hb); replace S8 := Aside0.mk (S8.out.below hb); replace T5 := Aside0.mk (T5.out.below hb); replace T6 := Aside0.mk (T6.out.below hb); replace T7 := Aside0.mk (T7.out.below hb); replace T8 := Aside0.mk (T8.out.below hb); replace X := Aside0.mk (X.out.below hb); replace hx := fun i => X.out.cell i; replace Y := Aside0.mk (Y.out.below hb); replace hy := fun i => Y.out.cell i; clear  hb) | (go_at_call 57; (with_reducible refine (KB.out _ _ HB.out).mono ?_); rintro e W ⟨rfl, hb⟩; replace B := Aside0.mk (below_then B.out B.out.size hb); replace HA := Aside0.mk (HA.out.below hb); replace HB := Aside0.mk (HB.out.below hb); replace S5 := Aside0.mk (S5.out.below hb); replace S6 := Aside0.mk (S6.out.below hb); replace S7 := Aside0.mk (S7.out.below hb); replace S8 := Aside0.mk (S8.out.below hb); replace T5 := Aside0.mk (T5.out.below hb); replace T6 := Aside0.mk (T6.out.below hb); replace T7 := Aside0.mk (T7.out.below hb); replace T8 := Aside0.mk (T8.out.below hb); replace X := Aside0.mk (X.out.below hb); replace hx := fun i => X.out.cell i; replace Y := Aside0.mk (Y.out.below hb); replace hy := fun i => Y.out.cell i; clear  hb) | (go_at_call 77; (with_reducible refine (C1.out _ _ _ S5.out S7.out).mono ?_); rintro e W ⟨v0, v1, rfl, h0, h1, hb⟩; replace B := Aside0.mk (below_then B.out B.out.size hb); replace HA := Aside0.mk (HA.out.below hb); replace HB := Aside0.mk (HB.out.below hb); replace S5 := Aside0.mk (S5.out.below hb); replace S6 := Aside0.mk (S6.out.below hb); replace S7 := Aside0.mk (S7.out.below hb); replace S8 := Aside0.mk (S8.out.below hb); replace T5 := Aside0.mk (T5.out.below hb); replace T6 := Aside0.mk (T6.out.below hb); replace T7 := Aside0.mk (T7.out.below hb); replace T8 := Aside0.mk (T8.out.below hb); replace X := Aside0.mk (X.out.below hb); replace hx := fun i => X.out.cell i; replace Y := Aside0.mk (Y.out.below hb); replace hy := fun i => Y.out.cell i; have P1 := Aside0.mk h0; have V1 := Aside0.mk h1; clear h0 h1 hb) | (go_at_call 77; (with_reducible refine (C2.out _ _ _ T5.out T7.out).mono ?_); rintro e W ⟨v2, v3, rfl, h0, h1, hb⟩; replace B := Aside0.mk (below_then B.out B.out.size hb); replace HA := Aside0.mk (HA.out.below hb); replace HB := Aside0.mk (HB.out.below hb); replace S5 := Aside0.mk (S5.out.below hb); replace S6 := Aside0.mk (S6.out.below hb); replace S7 := Aside0.mk (S7.out.below hb); replace S8 := Aside0.mk (S8.out.below hb); replace T5 := Aside0.mk (T5.out.below hb); replace T6 := Aside0.mk (T6.out.below hb); replace T7 := Aside0.mk (T7.out.below hb); replace T8 := Aside0.mk (T8.out.below hb); replace P1 := Aside0.mk (P1.out.below hb); replace V1 := Aside0.mk (V1.out.below hb); replace X := Aside0.mk (X.out.below hb); replace hx := fun i => X.out.cell i; replace Y := Aside0.mk (Y.out.below hb); replace hy := fun i => Y.out.cell i; have P2 := Aside0.mk h0; have V2 := Aside0.mk h1; clear h0 h1 hb) | (go_at_call 150; (with_reducible refine (M1.out _ _ _ _ _ P1.out V1.out P2.out V2.out).mono ?_); rintro e W ⟨rfl, hb⟩; replace B := Aside0.mk (below_then B.out B.out.size hb); replace HA := Aside0.mk (HA.out.below hb); replace HB := Aside0.mk (HB.out.below hb); replace S5 := Aside0.mk (S5.out.below hb); replace S6 := Aside0.mk (S6.out.below hb); replace S7 := Aside0.mk (S7.out.below hb); replace S8 := Aside0.mk (S8.out.below hb); replace T5 := Aside0.mk (T5.out.below hb); replace T6 := Aside0.mk (T6.out.below hb); replace T7 := Aside0.mk (T7.out.below hb); replace T8 := Aside0.mk (T8.out.below hb); replace P1 := Aside0.mk (P1.out.below hb); replace V1 := Aside0.mk (V1.out.below hb); replace P2 := Aside0.mk (P2.out.below hb); replace V2 := Aside0.mk (V2.out.below hb); replace X := Aside0.mk (X.out.below hb); replace hx := fun i => X.out.cell i; replace Y := Aside0.mk (Y.out.below hb); replace hy := fun i => Y.out.cell i; clear  hb) | (go_at_call 77; (with_reducible refine (C3.out _ _ _ S6.out S8.out).mono ?_); rintro e W ⟨v4, v5, rfl, h0, h1, hb⟩; replace B := Aside0.mk (below_then B.out B.out.size hb); replace HA := Aside0.mk (HA.out.below hb); replace HB := Aside0.mk (HB.out.below hb); replace S5 := Aside0.mk (S5.out.below hb); replace S6 := Aside0.mk (S6.out.below hb); replace S7 := Aside0.mk (S7.out.below hb); replace S8 := Aside0.mk (S8.out.below hb); replace T5 := Aside0.mk (T5.out.below hb); replace T6 := Aside0.mk (T6.out.below hb); replace T7 := Aside0.mk (T7.out.below hb); replace T8 := Aside0.mk (T8.out.below hb); replace P1 := Aside0.mk (P1.out.below hb); replace V1 := Aside0.mk (V1.out.below hb); replace P2 := Aside0.mk (P2.out.below hb); replace V2 := Aside0.mk (V2.out.below hb); replace X := Aside0.mk (X.out.below hb); replace hx := fun i => X.out.cell i; replace Y := Aside0.mk (Y.out.below hb); replace hy := fun i => Y.out.cell i; have P3 := Aside0.mk h0; have V3 := Aside0.mk h1; clear h0 h1 hb) | (go_at_call 77; (with_reducible refine (C4.out _ _ _ T6.out T8.out).mono ?_); rintro e W ⟨v6, v7, rfl, h0, h1, hb⟩; replace B := Aside0.mk (below_then B.out B.out.size hb); replace HA := Aside0.mk (HA.out.below hb); replace HB := Aside0.mk (HB.out.below hb); replace S5 := Aside0.mk (S5.out.below hb); replace S6 := Aside0.mk (S6.out.below hb); replace S7 := Aside0.mk (S7.out.below hb); replace S8 := Aside0.mk (S8.out.below hb); replace T5 := Aside0.mk (T5.out.below hb); replace T6 := Aside0.mk (T6.out.below hb); replace T7 := Aside0.mk (T7.out.below hb); replace T8 := Aside0.mk (T8.out.below hb); replace P1 := Aside0.mk (P1.out.below hb); replace V1 := Aside0.mk (V1.out.below hb); replace P2 := Aside0.mk (P2.out.below hb); replace V2 := Aside0.mk (V2.out.below hb); replace P3 := Aside0.mk (P3.out.below hb); replace V3 := Aside0.mk (V3.out.below hb); replace X := Aside0.mk (X.out.below hb); replace hx := fun i => X.out.cell i; replace Y := Aside0.mk (Y.out.below hb); replace hy := fun i => Y.out.cell i; have P4 := Aside0.mk h0; have V4 := Aside0.mk h1; clear h0 h1 hb) | (go_at_call 150; (with_reducible refine (M2.out _ _ _ _ _ P3.out V3.out P4.out V4.out).mono ?_); rintro e W ⟨rfl, hb⟩; replace B := Aside0.mk (below_then B.out B.out.size hb); replace HA := Aside0.mk (HA.out.below hb); replace HB := Aside0.mk (HB.out.below hb); replace S5 := Aside0.mk (S5.out.below hb); replace S6 := Aside0.mk (S6.out.below hb); replace S7 := Aside0.mk (S7.out.below hb); replace S8 := Aside0.mk (S8.out.below hb); replace T5 := Aside0.mk (T5.out.below hb); replace T6 := Aside0.mk (T6.out.below hb); replace T7 := Aside0.mk (T7.out.below hb); replace T8 := Aside0.mk (T8.out.below hb); replace P1 := Aside0.mk (P1.out.below hb); replace V1 := Aside0.mk (V1.out.below hb); replace P2 := Aside0.mk (P2.out.below hb); replace V2 := Aside0.mk (V2.out.below hb); replace P3 := Aside0.mk (P3.out.below hb); replace V3 := Aside0.mk (V3.out.below hb); replace P4 := Aside0.mk (P4.out.below hb); replace V4 := Aside0.mk (V4.out.below hb); replace X := Aside0.mk (X.out.below hb); replace hx := fun i => X.out.cell i; replace Y := Aside0.mk (Y.out.below hb); replace hy := fun i => Y.out.cell i; clear  hb))
    go_ret
    exact ⟨rfl, B.out⟩
end Go.Proofs.Ytacgeafjilipdaa.P
namespace Go.Proofs.Ytacgeafjilipdaa.P
open Go.RowKit Go.Shelf Go.Proofs.YtacgeafjilipdaaW.PrintWords Go.Proofs.YtacgeafjilipdaaW.PrintLast Go.Proofs.YtacgeafjilipdaaW.PrintMore
set_option linter.unusedVariables false
set_option linter.unusedSimpArgs false
def oneH : Hi := ⟨0, 1, 1, 6, 0, [⟨3, 2⟩], [], [5, -5], []⟩
def canH : Hi := ⟨0, 1, 1, 6, 0, [⟨3, 1⟩], [], [5], []⟩
def badH : Hi := ⟨0, 1, 1, 7, 0, [⟨3, 2⟩], [], [5, -5], []⟩
def oneP : List Pr := [⟨3, 5⟩, ⟨4, 0⟩]
theorem oneH_wf : wfH oneH := by unfold wfH; decide
theorem canH_wf : wfH canH := by unfold wfH; decide
theorem badH_wf : wfH badH := by unfold wfH; decide
theorem aw09_1 : pairsR oneH 0 = (oneP, 0) := by kernel_rfl
theorem aw09_2 : canonR oneH = (canH, 0) := by kernel_rfl
theorem aw09_3 : checkR badH = 22 := by kernel_rfl
theorem aw09_4 : makeR oneH oneP [] = (oneH, 0) := by kernel_rfl
theorem aw09_5 : overR canH oneH.f5 [] = (oneH, 0) := by kernel_rfl
theorem aw09_6 : equalR oneH oneH = true := by kernel_rfl
theorem aw09_7 : equalR oneH canH = true := by kernel_rfl
theorem aw09_8 : equalR oneH badH = false := by kernel_rfl
theorem aw09_9 : hist_NaN.f 9223372036854775807 = some true := by kernel_rfl
theorem aw09_10 : hist_Threshold.f 0 = some true := by kernel_rfl
theorem oneP_wf : wfRow oneP := ⟨by unfold wfPrs oneP; decide, by decide⟩
theorem one_x (w : World) : Calls Try.prog 149 #[] w fun e w' => ∃ oA5 oc5 oA6 oc6 oA7 oc7 oA8 oc8, e = .returned (.agg #[.int .i64 0, .int .u64 1, .int .u64 1, .int .u64 6, .int .u64 0, .slice oA5 1 oc5, .slice oA6 0 oc6, .slice oA7 2 oc7, .slice oA8 0 oc8]) ∧ HI w' (.agg #[.int .i64 0, .int .u64 1, .int .u64 1, .int .u64 6, .int .u64 0, .slice oA5 1 oc5, .slice oA6 0 oc6, .slice oA7 2 oc7, .slice oA8 0 oc8]) oneH ∧ Below w.heap.size w w' := by
  refine (tidepolelaw09_one.calls 0 1 1 6 0 [⟨3, 2⟩] [] [5, -5] [] w (by kernel_rfl)).mono ?_
  rintro e w1 ⟨v5, v6, v7, v8, rfl, h5, h6, h7, h8, hb⟩
  have hi : HI w1 (.agg #[.int .i64 0, .int .u64 1, .int .u64 1, .int .u64 6, .int .u64 0, v5, v6, v7, v8]) oneH := ⟨v5, v6, v7, v8, rfl, .of_R h5, .of_R h6, .of_R h7, .of_R h8⟩
  obtain ⟨a5, c5, a6, c6, a7, c7, a8, c8, e, -⟩ := hi.open_
  rw [e] at hi ⊢
  exact ⟨a5, c5, a6, c6, a7, c7, a8, c8, rfl, hi, hb⟩
theorem pairs_x (w : World) (v : Value) (hv : HI w v oneH) : Calls Try.prog 76 #[v, .int .i64 0] w fun e w' => ∃ A c, e = .returned (.tuple #[.slice A 2 c, .int .i64 0]) ∧ SI kPr w' (.slice A 2 c) oneP ∧ Below w.heap.size w w' := by
  have := pairs_c oneH oneH_wf 0 w v hv
  rw [aw09_1] at this
  refine this.mono ?_
  rintro e w1 ⟨v0, rfl, h0, hb⟩
  have h0' := h0
  obtain ⟨A, c, rfl, -⟩ := h0'
  exact ⟨A, c, rfl, h0, hb⟩
theorem canon_x (w : World) (v : Value) (hv : HI w v oneH) : Calls Try.prog 90 #[v] w fun e w' => ∃ cA5 cc5 cA6 cc6 cA7 cc7 cA8 cc8, e = .returned (.tuple #[.agg #[.int .i64 0, .int .u64 1, .int .u64 1, .int .u64 6, .int .u64 0, .slice cA5 1 cc5, .slice cA6 0 cc6, .slice cA7 1 cc7, .slice cA8 0 cc8], .int .i64 0]) ∧ HI w' (.agg #[.int .i64 0, .int .u64 1, .int .u64 1, .int .u64 6, .int .u64 0, .slice cA5 1 cc5, .slice cA6 0 cc6, .slice cA7 1 cc7, .slice cA8 0 cc8]) canH ∧ Below w.heap.size w w' := by
  have := canon_c oneH oneH_wf w v hv
  rw [aw09_2] at this
  refine this.mono ?_
  rintro e w1 ⟨v0, rfl, h0, hb⟩
  obtain ⟨a5, c5, a6, c6, a7, c7, a8, c8, e, -⟩ := h0.now.open_
  have hi := h0.now
  subst e
  exact ⟨a5, c5, a6, c6, a7, c7, a8, c8, rfl, hi, hb⟩
theorem make_x (w : World) (v vp : Value) (hv : HI w v oneH) (hp : SI kPr w vp oneP) : Calls Try.prog 87 #[v, vp, .slice none 0 0] w fun e w' => ∃ mA5 mc5 mA6 mc6 mA7 mc7 mA8 mc8, e = .returned (.tuple #[.agg #[.int .i64 0, .int .u64 1, .int .u64 1, .int .u64 6, .int .u64 0, .slice mA5 1 mc5, .slice mA6 0 mc6, .slice mA7 2 mc7, .slice mA8 0 mc8], .int .i64 0]) ∧ HI w' (.agg #[.int .i64 0, .int .u64 1, .int .u64 1, .int .u64 6, .int .u64 0, .slice mA5 1 mc5, .slice mA6 0 mc6, .slice mA7 2 mc7, .slice mA8 0 mc8]) oneH ∧ Below w.heap.size w w' := by
  have := make_c oneH oneH_wf oneP [] oneP_wf RowOK.nil.wf w v vp _ hv hp (SI.nil _ _)
  rw [aw09_4] at this
  refine this.mono ?_
  rintro e w1 ⟨v0, rfl, h0, hb⟩
  obtain ⟨a5, c5, a6, c6, a7, c7, a8, c8, e, -⟩ := h0.now.open_
  have hi := h0.now
  subst e
  exact ⟨a5, c5, a6, c6, a7, c7, a8, c8, rfl, hi, hb⟩
theorem over_x (w : World) (v vp : Value) (hv : HI w v canH) (hp : SI kSp w vp oneH.f5) : Calls Try.prog 83 #[v, vp, .slice none 0 0] w fun e w' => ∃ rA5 rc5 rA6 rc6 rA7 rc7 rA8 rc8, e = .returned (.tuple #[.agg #[.int .i64 0, .int .u64 1, .int .u64 1, .int .u64 6, .int .u64 0, .slice rA5 1 rc5, .slice rA6 0 rc6, .slice rA7 2 rc7, .slice rA8 0 rc8], .int .i64 0]) ∧ HF w.heap.size w' (.agg #[.int .i64 0, .int .u64 1, .int .u64 1, .int .u64 6, .int .u64 0, .slice rA5 1 rc5, .slice rA6 0 rc6, .slice rA7 2 rc7, .slice rA8 0 rc8]) oneH ∧ Below w.heap.size w w' := by
  have := over_c canH canH_wf oneH.f5 [] oneH_wf.2.2.2.2.2.1 (fun s hs => by simp at hs) w v vp _ hv hp (SI.nil _ _)
  rw [aw09_5] at this
  refine this.mono ?_
  rintro e w1 ⟨v0, rfl, h0, hb⟩
  obtain ⟨a5, c5, a6, c6, a7, c7, a8, c8, e, -⟩ := h0.now.open_
  subst e
  exact ⟨a5, c5, a6, c6, a7, c7, a8, c8, rfl, h0, hb⟩
theorem equal_x (a b : Hi) (ha : wfH a) (hb : wfH b) (r : Bool) (he : equalR a b = r) (w : World) (u v : Value) (hu : HI w u a) (hv : HI w v b) : Calls Try.prog 80 #[u, v] w fun e w' => e = .returned (.bool r) ∧ Below w.heap.size w w' := he ▸ equal_c a b ha hb w u v hu hv
theorem check_x (a : Hi) (ha : wfH a) (r : Int) (he : checkR a = r) (w : World) (u : Value) (hu : HI w u a) : Calls Try.prog 67 #[u] w fun e w' => e = .returned (.int .i64 r) ∧ Below w.heap.size w w' := he ▸ check_c a ha w u hu
theorem HI.spans {w : World} {h : Hi} {A5 A6 A7 A8 : Option Addr} {n5 n6 n7 n8 c5 c6 c7 c8 : Nat} {x0 x1 x2 x3 x4 : Value} (hv : HI w (.agg #[x0, x1, x2, x3, x4, .slice A5 n5 c5, .slice A6 n6 c6, .slice A7 n7 c7, .slice A8 n8 c8]) h) : SI kSp w (.slice A5 n5 c5) h.f5 := by
  obtain ⟨v5, v6, v7, v8, e, h5, -⟩ := hv
  injection e with e
  have e5 := congrArg (fun a : Array Value => a.getD 5 undef) e
  simp at e5
  rw [e5]; exact h5
theorem HI.bad {w : World} {A5 A6 A7 A8 : Option Addr} {n5 n6 n7 n8 c5 c6 c7 c8 : Nat} (hv : HI w (.agg #[.int .i64 0, .int .u64 1, .int .u64 1, .int .u64 6, .int .u64 0, .slice A5 n5 c5, .slice A6 n6 c6, .slice A7 n7 c7, .slice A8 n8 c8]) oneH) : HI w (.agg #[.int .i64 0, .int .u64 1, .int .u64 1, .int .u64 7, .int .u64 0, .slice A5 n5 c5, .slice A6 n6 c6, .slice A7 n7 c7, .slice A8 n8 c8]) badH := by
  obtain ⟨v5, v6, v7, v8, e, h5, h6, h7, h8⟩ := hv
  injection e with e
  have e5 := congrArg (fun a : Array Value => a.getD 5 undef) e
  have e6 := congrArg (fun a : Array Value => a.getD 6 undef) e
  have e7 := congrArg (fun a : Array Value => a.getD 7 undef) e
  have e8 := congrArg (fun a : Array Value => a.getD 8 undef) e
  simp at e5 e6 e7 e8
  subst e5; subst e6; subst e7; subst e8
  exact ⟨_, _, _, _, rfl, h5, h6, h7, h8⟩
theorem field5_x (a5 a6 a7 a8 : Option Addr) (n5 c5 n6 c6 n7 c7 n8 c8 : Nat) (x0 x1 x2 x3 x4 : Int) (W : World) : (Instr.field 64 (.agg #[.int .i64 x0, .int .u64 x1, .int .u64 x2, .int .u64 x3, .int .u64 x4, .slice a5 n5 c5, .slice a6 n6 c6, .slice a7 n7 c7, .slice a8 n8 c8]) 5).run Try.prog W = .ok (.slice a5 n5 c5) W := by
  kernel_rfl
set_option maxHeartbeats 16000000 in
set_option maxRecDepth 100000 in
theorem awake09_c (w : World) : Calls Try.prog 70 #[] w fun e w' => e = .returned (.bool true) ∧ Below w.heap.size w w' := by
  have hu := Try.underlying64
  have hpu := Try.underlying26
  have hfd := field5_x
  go_enter Try.func70, Try.ntmps70
  go_wp2_with fail
  refine (one_x w).mono ?_
  rintro e w1 ⟨oA5, oc5, oA6, oc6, oA7, oc7, oA8, oc8, rfl, hh, hb⟩
  have B := Aside0.mk hb
  have O := Aside0.mk hh
  clear hb hh
  go_wp2_with fail
  refine (pairs_x _ _ O.out).mono ?_
  rintro e w2 ⟨pA, pc, rfl, hh, hb⟩
  replace B := Aside0.mk (below_then B.out B.out.size hb)
  replace O := Aside0.mk (O.out.below hb)
  have P := Aside0.mk hh
  clear hb hh
  go_wp2_with fail
  refine (one_x _).mono ?_
  rintro e w3 ⟨qA5, qc5, qA6, qc6, qA7, qc7, qA8, qc8, rfl, hh, hb⟩
  replace B := Aside0.mk (below_then B.out B.out.size hb)
  replace O := Aside0.mk (O.out.below hb)
  replace P := Aside0.mk (P.out.below hb)
  have Q := Aside0.mk hh
  clear hb hh
  go_wp2_with fail
  refine (canon_x _ _ Q.out).mono ?_
  rintro e w4 ⟨cA5, cc5, cA6, cc6, cA7, cc7, cA8, cc8, rfl, hh, hb⟩
  replace B := Aside0.mk (below_then B.out B.out.size hb)
  replace O := Aside0.mk (O.out.below hb)
  replace P := Aside0.mk (P.out.below hb)
  replace Q := Aside0.mk (Q.out.below hb)
  have C := Aside0.mk hh
  clear hb hh
  go_wp2_with fail
  refine (one_x _).mono ?_
  rintro e W5 ⟨bA5, bc5, bA6, bc6, bA7, bc7, bA8, bc8, rfl, hh, hb⟩
  have hb0 := hb
  have hb := below_then (below_alloc (Below.refl w4.heap.size w4) (.cells #[.int .i64 0, .int .u64 1, .int .u64 1, .int .u64 6, .int .u64 0, .slice cA5 1 cc5, .slice cA6 0 cc6, .slice cA7 1 cc7, .slice cA8 0 cc8] 64)) ((below_alloc (Below.refl w4.heap.size w4) (.cells #[.int .i64 0, .int .u64 1, .int .u64 1, .int .u64 6, .int .u64 0, .slice cA5 1 cc5, .slice cA6 0 cc6, .slice cA7 1 cc7, .slice cA8 0 cc8] 64))).size hb
  replace B := Aside0.mk (below_then B.out B.out.size hb)
  replace O := Aside0.mk (O.out.below hb)
  replace P := Aside0.mk (P.out.below hb)
  replace Q := Aside0.mk (Q.out.below hb)
  replace C := Aside0.mk (C.out.below hb)
  have T3 := Aside0.mk (show Blk W5 w4.heap.size #[.int .i64 0, .int .u64 1, .int .u64 1, .int .u64 6, .int .u64 0, .slice cA5 1 cc5, .slice cA6 0 cc6, .slice cA7 1 cc7, .slice cA8 0 cc8] 64 from (Blk.new w4 #[.int .i64 0, .int .u64 1, .int .u64 1, .int .u64 6, .int .u64 0, .slice cA5 1 cc5, .slice cA6 0 cc6, .slice cA7 1 cc7, .slice cA8 0 cc8] 64).below hb0)
  have ht3 := fun i => T3.out.cell i
  have D := Aside0.mk hh
  clear hb hb0 hh
  have hbw := below_alloc (Below.refl W5.heap.size W5) (.cells #[.int .i64 0, .int .u64 1, .int .u64 1, .int .u64 7, .int .u64 0, .slice bA5 1 bc5, .slice bA6 0 bc6, .slice bA7 2 bc7, .slice bA8 0 bc8] 64)
  have hP := P.out.below hbw
  obtain ⟨_, _, eP, _, hPC⟩ := hP
  cases eP
  obtain ⟨ad, e1, hx0, hx1⟩ := at_T26 hPC 0 (by decide) (by decide)
  obtain ⟨ad', e1', hy0, hy1⟩ := at_T26 hPC 1 (by decide) (by decide)
  subst e1
  cases e1'
  have hx1' : (W5.alloc (.cells #[.int .i64 0, .int .u64 1, .int .u64 1, .int .u64 7, .int .u64 0, .slice bA5 1 bc5, .slice bA6 0 bc6, .slice bA7 2 bc7, .slice bA8 0 bc8] 64)).cell? ⟨ad.block, ad.off + 1, none⟩ = some (.int .i64 5) := hx1
  have hy0' : (W5.alloc (.cells #[.int .i64 0, .int .u64 1, .int .u64 1, .int .u64 7, .int .u64 0, .slice bA5 1 bc5, .slice bA6 0 bc6, .slice bA7 2 bc7, .slice bA8 0 bc8] 64)).cell? ⟨ad.block, ad.off + 2, none⟩ = some (.int .i64 4) := hy0
  clear hx0 hx1 hy0 hy1 hPC hbw
  replace ht3 := fun i => (T3.out.alloc (.cells #[.int .i64 0, .int .u64 1, .int .u64 1, .int .u64 7, .int .u64 0, .slice bA5 1 bc5, .slice bA6 0 bc6, .slice bA7 2 bc7, .slice bA8 0 bc8] 64)).cell i
  go_wp2_with fail
  refine (check_x badH badH_wf 22 aw09_3 _ _ (D.out.bad.below (below_alloc (Below.refl W5.heap.size W5) (.cells #[.int .i64 0, .int .u64 1, .int .u64 1, .int .u64 7, .int .u64 0, .slice bA5 1 bc5, .slice bA6 0 bc6, .slice bA7 2 bc7, .slice bA8 0 bc8] 64)))).mono ?_
  rintro e W6 ⟨rfl, hb⟩
  have hb0 := hb
  have hb := below_then (below_alloc (Below.refl W5.heap.size W5) (.cells #[.int .i64 0, .int .u64 1, .int .u64 1, .int .u64 7, .int .u64 0, .slice bA5 1 bc5, .slice bA6 0 bc6, .slice bA7 2 bc7, .slice bA8 0 bc8] 64)) ((below_alloc (Below.refl W5.heap.size W5) (.cells #[.int .i64 0, .int .u64 1, .int .u64 1, .int .u64 7, .int .u64 0, .slice bA5 1 bc5, .slice bA6 0 bc6, .slice bA7 2 bc7, .slice bA8 0 bc8] 64))).size hb
  replace B := Aside0.mk (below_then B.out B.out.size hb)
  replace O := Aside0.mk (O.out.below hb)
  replace P := Aside0.mk (P.out.below hb)
  replace Q := Aside0.mk (Q.out.below hb)
  replace C := Aside0.mk (C.out.below hb)
  replace D := Aside0.mk (D.out.below hb)
  replace T3 := Aside0.mk (T3.out.below hb)
  replace ht3 := fun i => T3.out.cell i
  have T5 := Aside0.mk (show Blk W6 W5.heap.size #[.int .i64 0, .int .u64 1, .int .u64 1, .int .u64 7, .int .u64 0, .slice bA5 1 bc5, .slice bA6 0 bc6, .slice bA7 2 bc7, .slice bA8 0 bc8] 64 from (Blk.new W5 #[.int .i64 0, .int .u64 1, .int .u64 1, .int .u64 7, .int .u64 0, .slice bA5 1 bc5, .slice bA6 0 bc6, .slice bA7 2 bc7, .slice bA8 0 bc8] 64).below hb0)
  have ht5 := fun i => T5.out.cell i
  have Bd := Aside0.mk (D.out.bad)
  clear hb hb0
  go_wp2_with fail
  refine (one_x _).mono ?_
  rintro e W7 ⟨eA5, ec5, eA6, ec6, eA7, ec7, eA8, ec8, rfl, hh, hb⟩
  replace B := Aside0.mk (below_then B.out B.out.size hb)
  replace O := Aside0.mk (O.out.below hb)
  replace P := Aside0.mk (P.out.below hb)
  replace Q := Aside0.mk (Q.out.below hb)
  replace C := Aside0.mk (C.out.below hb)
  replace D := Aside0.mk (D.out.below hb)
  replace Bd := Aside0.mk (Bd.out.below hb)
  replace T3 := Aside0.mk (T3.out.below hb)
  replace ht3 := fun i => T3.out.cell i
  replace T5 := Aside0.mk (T5.out.below hb)
  replace ht5 := fun i => T5.out.cell i
  have E := Aside0.mk hh
  clear hb hh
  go_wp2_with fail
  refine (make_x _ _ _ E.out P.out).mono ?_
  rintro e W8 ⟨mA5, mc5, mA6, mc6, mA7, mc7, mA8, mc8, rfl, hh, hb⟩
  replace B := Aside0.mk (below_then B.out B.out.size hb)
  replace O := Aside0.mk (O.out.below hb)
  replace P := Aside0.mk (P.out.below hb)
  replace Q := Aside0.mk (Q.out.below hb)
  replace C := Aside0.mk (C.out.below hb)
  replace D := Aside0.mk (D.out.below hb)
  replace Bd := Aside0.mk (Bd.out.below hb)
  replace E := Aside0.mk (E.out.below hb)
  replace T3 := Aside0.mk (T3.out.below hb)
  replace ht3 := fun i => T3.out.cell i
  replace T5 := Aside0.mk (T5.out.below hb)
  replace ht5 := fun i => T5.out.cell i
  have M := Aside0.mk hh
  clear hb hh
  have hw := below_alloc (Below.refl W8.heap.size W8) (.cells #[.int .i64 0, .int .u64 1, .int .u64 1, .int .u64 6, .int .u64 0, .slice mA5 1 mc5, .slice mA6 0 mc6, .slice mA7 2 mc7, .slice mA8 0 mc8] 64)
  replace B := Aside0.mk (below_then B.out B.out.size hw)
  replace C := Aside0.mk (C.out.below hw)
  replace Bd := Aside0.mk (Bd.out.below hw)
  replace M := Aside0.mk (M.out.below hw)
  replace T3 := Aside0.mk (T3.out.below hw)
  replace T5 := Aside0.mk (T5.out.below hw)
  have T6 := Aside0.mk (Blk.new W8 #[.int .i64 0, .int .u64 1, .int .u64 1, .int .u64 6, .int .u64 0, .slice mA5 1 mc5, .slice mA6 0 mc6, .slice mA7 2 mc7, .slice mA8 0 mc8] 64)
  replace ht3 := fun i => T3.out.cell i
  clear hw ht5 hx1' hy0'
  go_upto_region 8 with fail
  go_cut [8, 9] (fun s8 s9 wx => s9 = .int .i64 0 ∧ ∃ g : Nat, s8 = .pointer (some ⟨g, 0, none⟩) ∧ Aside0 ((W8.alloc (.cells #[.int .i64 0, .int .u64 1, .int .u64 1, .int .u64 6, .int .u64 0, .slice mA5 1 mc5, .slice mA6 0 mc6, .slice mA7 2 mc7, .slice mA8 0 mc8] 64)).heap.size ≤ g ∧ Below (W8.alloc (.cells #[.int .i64 0, .int .u64 1, .int .u64 1, .int .u64 6, .int .u64 0, .slice mA5 1 mc5, .slice mA6 0 mc6, .slice mA7 2 mc7, .slice mA8 0 mc8] 64)).heap.size (W8.alloc (.cells #[.int .i64 0, .int .u64 1, .int .u64 1, .int .u64 6, .int .u64 0, .slice mA5 1 mc5, .slice mA6 0 mc6, .slice mA7 2 mc7, .slice mA8 0 mc8] 64)) wx ∧ ∃ rA5 rc5 rA6 rc6 rA7 rc7 rA8 rc8, Blk wx g #[.int .i64 0, .int .u64 1, .int .u64 1, .int .u64 6, .int .u64 0, .slice rA5 1 rc5, .slice rA6 0 rc6, .slice rA7 2 rc7, .slice rA8 0 rc8] 64 ∧ HI wx (.agg #[.int .i64 0, .int .u64 1, .int .u64 1, .int .u64 6, .int .u64 0, .slice rA5 1 rc5, .slice rA6 0 rc6, .slice rA7 2 rc7, .slice rA8 0 rc8]) oneH))
  case first =>
    have ht3a := fun i => (T3.out.alloc (.cells #[.int .i64 0, .int .u64 0, .int .u64 0, .int .u64 0, .int .u64 0, .slice none 0 0, .slice none 0 0, .slice none 0 0, .slice none 0 0] 64)).cell i
    go_region_with (first | (go_at_call 149; (with_reducible refine (one_x (W8.alloc (.cells #[.int .i64 0, .int .u64 1, .int .u64 1, .int .u64 6, .int .u64 0, .slice mA5 1 mc5, .slice mA6 0 mc6, .slice mA7 2 mc7, .slice mA8 0 mc8] 64)).drew).mono ?_); rintro e W9 ⟨fA5, fc5, fA6, fc6, fA7, fc7, fA8, fc8, rfl, hh, hb⟩; have F := Aside0.mk hh; have B9 := Aside0.mk (below_then (below_drew (Below.refl (W8.alloc (.cells #[.int .i64 0, .int .u64 1, .int .u64 1, .int .u64 6, .int .u64 0, .slice mA5 1 mc5, .slice mA6 0 mc6, .slice mA7 2 mc7, .slice mA8 0 mc8] 64)).heap.size (W8.alloc (.cells #[.int .i64 0, .int .u64 1, .int .u64 1, .int .u64 6, .int .u64 0, .slice mA5 1 mc5, .slice mA6 0 mc6, .slice mA7 2 mc7, .slice mA8 0 mc8] 64)))) (Nat.le_refl _) hb); replace ht3 := fun i => (T3.out.below B9.out).cell i; have ht3b := fun i => ((T3.out.below B9.out).alloc (.cells #[.int .i64 0, .int .u64 0, .int .u64 0, .int .u64 0, .int .u64 0, .slice none 0 0, .slice none 0 0, .slice none 0 0, .slice none 0 0] 64)).cell i; clear hh hb) | (go_at_call 149; (with_reducible refine (one_x ((W8.alloc (.cells #[.int .i64 0, .int .u64 1, .int .u64 1, .int .u64 6, .int .u64 0, .slice mA5 1 mc5, .slice mA6 0 mc6, .slice mA7 2 mc7, .slice mA8 0 mc8] 64)).alloc (.cells #[.int .i64 0, .int .u64 0, .int .u64 0, .int .u64 0, .int .u64 0, .slice none 0 0, .slice none 0 0, .slice none 0 0, .slice none 0 0] 64)).drew).mono ?_); rintro e W9 ⟨fA5, fc5, fA6, fc6, fA7, fc7, fA8, fc8, rfl, hh, hb⟩; have F := Aside0.mk hh; have B9 := Aside0.mk (below_then (below_drew (below_alloc (Below.refl (W8.alloc (.cells #[.int .i64 0, .int .u64 1, .int .u64 1, .int .u64 6, .int .u64 0, .slice mA5 1 mc5, .slice mA6 0 mc6, .slice mA7 2 mc7, .slice mA8 0 mc8] 64)).heap.size (W8.alloc (.cells #[.int .i64 0, .int .u64 1, .int .u64 1, .int .u64 6, .int .u64 0, .slice mA5 1 mc5, .slice mA6 0 mc6, .slice mA7 2 mc7, .slice mA8 0 mc8] 64))) (.cells #[.int .i64 0, .int .u64 0, .int .u64 0, .int .u64 0, .int .u64 0, .slice none 0 0, .slice none 0 0, .slice none 0 0, .slice none 0 0] 64))) (by simp) hb); have Z9 := Aside0.mk (show Blk W9 (W8.heap.size + 1) #[.int .i64 0, .int .u64 0, .int .u64 0, .int .u64 0, .int .u64 0, .slice none 0 0, .slice none 0 0, .slice none 0 0, .slice none 0 0] 64 from (show Blk ((W8.alloc (.cells #[.int .i64 0, .int .u64 1, .int .u64 1, .int .u64 6, .int .u64 0, .slice mA5 1 mc5, .slice mA6 0 mc6, .slice mA7 2 mc7, .slice mA8 0 mc8] 64)).alloc (.cells #[.int .i64 0, .int .u64 0, .int .u64 0, .int .u64 0, .int .u64 0, .slice none 0 0, .slice none 0 0, .slice none 0 0, .slice none 0 0] 64)) (W8.heap.size + 1) #[.int .i64 0, .int .u64 0, .int .u64 0, .int .u64 0, .int .u64 0, .slice none 0 0, .slice none 0 0, .slice none 0 0, .slice none 0 0] 64 from Blk.at1 (w := W8) (.cells #[.int .i64 0, .int .u64 1, .int .u64 1, .int .u64 6, .int .u64 0, .slice mA5 1 mc5, .slice mA6 0 mc6, .slice mA7 2 mc7, .slice mA8 0 mc8] 64) #[.int .i64 0, .int .u64 0, .int .u64 0, .int .u64 0, .int .u64 0, .slice none 0 0, .slice none 0 0, .slice none 0 0, .slice none 0 0] 64).below (below_then (below_drew (Below.refl _ _)) (Nat.le_refl _) hb)); have HL9 := Aside0.mk (blk_lt Z9.out); replace ht3 := fun i => (T3.out.below B9.out).cell i; clear hh hb) | (go_at_call 83; (with_reducible refine (over_x W9 _ _ (C.out.below B9.out) F.out.spans).mono ?_); rintro e W10 ⟨rA5, rc5, rA6, rc6, rA7, rc7, rA8, rc8, rfl, hh, hb⟩; have R := Aside0.mk hh; have B10 := Aside0.mk (below_then B9.out B9.out.size hb); (try (replace Z9 := Aside0.mk (Z9.out.below hb); have hz := fun i => Z9.out.cell i; have hzf := fun i => blk_frozen Z9.out i)); replace ht3 := fun i => (T3.out.below B10.out).cell i; clear hh hb) | (go_at_call 83; (with_reducible refine (over_x (W9.alloc (.cells #[.int .i64 0, .int .u64 0, .int .u64 0, .int .u64 0, .int .u64 0, .slice none 0 0, .slice none 0 0, .slice none 0 0, .slice none 0 0] 64)) _ _ (C.out.below (below_then B9.out B9.out.size (below_alloc (Below.refl _ _) _))) (F.out.below (below_alloc (Below.refl _ _) _)).spans).mono ?_); rintro e W10 ⟨rA5, rc5, rA6, rc6, rA7, rc7, rA8, rc8, rfl, hh, hb⟩; have R := Aside0.mk hh; have B10 := Aside0.mk (below_then (below_then B9.out B9.out.size (below_alloc (Below.refl _ _) _)) (below_then B9.out B9.out.size (below_alloc (Below.refl _ _) _)).size hb); have Z9 := Aside0.mk (show Blk W10 W9.heap.size #[.int .i64 0, .int .u64 0, .int .u64 0, .int .u64 0, .int .u64 0, .slice none 0 0, .slice none 0 0, .slice none 0 0, .slice none 0 0] 64 from (Blk.new W9 #[.int .i64 0, .int .u64 0, .int .u64 0, .int .u64 0, .int .u64 0, .slice none 0 0, .slice none 0 0, .slice none 0 0, .slice none 0 0] 64).below hb); have hz := fun i => Z9.out.cell i; have hzf := fun i => blk_frozen Z9.out i; replace ht3 := fun i => (T3.out.below B10.out).cell i; clear hh hb))
    all_goals go_wp2_with fail
    all_goals go_meet
    all_goals (first | exact ⟨rfl, _, rfl, ⟨B10.out.size, B10.out.alloc B10.out.size _, _, _, _, _, _, _, _, _, Blk.new W10 _ _, R.out.now.below (below_alloc (Below.refl _ _) _)⟩⟩ | exact ⟨rfl, _, rfl, ⟨B9.out.size, nine_below B10.out B9.out.size _ _ _ _ _ _ _ _ _, _, _, _, _, _, _, _, _, nine Z9.out _ _ _ _ _ _ _ _ _, (R.out.step (nine_ka (KA.refl _ _) (by simp) _ _ _ _ _ _ _ _ _)).now⟩⟩ | exact ⟨rfl, _, rfl, ⟨by simp, nine_below B10.out (by simp) _ _ _ _ _ _ _ _ _, _, _, _, _, _, _, _, _, nine Z9.out _ _ _ _ _ _ _ _ _, (R.out.step (nine_ka (KA.refl _ _) HL9.out _ _ _ _ _ _ _ _ _)).now⟩⟩)
  case rest =>
    obtain ⟨rfl, g, rfl, HG⟩ := hcut
    obtain ⟨hg, hbb, rA5, rc5, rA6, rc6, rA7, rc7, rA8, rc8, t8, hr⟩ := HG.out
    replace B := Aside0.mk (below_then B.out B.out.size hbb)
    replace C := Aside0.mk (C.out.below hbb)
    replace Bd := Aside0.mk (Bd.out.below hbb)
    replace M := Aside0.mk (M.out.below hbb)
    have R := Aside0.mk hr
    replace T3 := Aside0.mk (T3.out.below hbb)
    replace T5 := Aside0.mk (T5.out.below hbb)
    replace T6 := Aside0.mk (T6.out.below hbb)
    have T8 := Aside0.mk t8
    replace ht3 := fun i => T3.out.cell i
    have ht5 := fun i => T5.out.cell i
    have ht6 := fun i => T6.out.cell i
    have ht8 := fun i => T8.out.cell i
    clear hg hbb t8 hr HG
    go_wp2_with fail
    go_region_held3 (fun W => (∀ i, W.cell? ⟨w4.heap.size, i, none⟩ = (#[.int .i64 0, .int .u64 1, .int .u64 1, .int .u64 6, .int .u64 0, .slice cA5 1 cc5, .slice cA6 0 cc6, .slice cA7 1 cc7, .slice cA8 0 cc8] : Array Value)[i]?) ∧ (∀ i, W.cell? ⟨W5.heap.size, i, none⟩ = (#[.int .i64 0, .int .u64 1, .int .u64 1, .int .u64 7, .int .u64 0, .slice bA5 1 bc5, .slice bA6 0 bc6, .slice bA7 2 bc7, .slice bA8 0 bc8] : Array Value)[i]?) ∧ (∀ i, W.cell? ⟨W8.heap.size, i, none⟩ = (#[.int .i64 0, .int .u64 1, .int .u64 1, .int .u64 6, .int .u64 0, .slice mA5 1 mc5, .slice mA6 0 mc6, .slice mA7 2 mc7, .slice mA8 0 mc8] : Array Value)[i]?) ∧ (∀ i, W.cell? ⟨g, i, none⟩ = (#[.int .i64 0, .int .u64 1, .int .u64 1, .int .u64 6, .int .u64 0, .slice rA5 1 rc5, .slice rA6 0 rc6, .slice rA7 2 rc7, .slice rA8 0 rc8] : Array Value)[i]?)) (exact ⟨fun i => T3.out.cell i, fun i => T5.out.cell i, fun i => T6.out.cell i, fun i => T8.out.cell i⟩) (first | (go_at_call 149; (with_reducible refine (one_x wc.drew).mono ?_); rintro e V1 ⟨xA5, xc5, xA6, xc6, xA7, xc7, xA8, xc8, rfl, hh, hb⟩; have hb0 := hb; have hb := below_then (below_drew (Below.refl wc.heap.size wc)) ((below_drew (Below.refl wc.heap.size wc))).size hb; replace B := Aside0.mk (below_then B.out B.out.size hb); replace C := Aside0.mk (C.out.below hb); replace Bd := Aside0.mk (Bd.out.below hb); replace M := Aside0.mk (M.out.below hb); replace R := Aside0.mk (R.out.below hb); replace T3 := Aside0.mk (T3.out.below hb); replace ht3 := fun i => T3.out.cell i; replace T5 := Aside0.mk (T5.out.below hb); replace ht5 := fun i => T5.out.cell i; replace T6 := Aside0.mk (T6.out.below hb); replace ht6 := fun i => T6.out.cell i; replace T8 := Aside0.mk (T8.out.below hb); replace ht8 := fun i => T8.out.cell i; have X1 := Aside0.mk hh; clear hb hb0 hh) | (go_at_call 80; (with_reducible refine (equal_x oneH oneH oneH_wf oneH_wf true aw09_6 V1 _ _ M.out X1.out).mono ?_); rintro e V2 ⟨rfl, hb⟩; replace B := Aside0.mk (below_then B.out B.out.size hb); replace C := Aside0.mk (C.out.below hb); replace Bd := Aside0.mk (Bd.out.below hb); replace M := Aside0.mk (M.out.below hb); replace R := Aside0.mk (R.out.below hb); replace X1 := Aside0.mk (X1.out.below hb); replace T3 := Aside0.mk (T3.out.below hb); replace ht3 := fun i => T3.out.cell i; replace T5 := Aside0.mk (T5.out.below hb); replace ht5 := fun i => T5.out.cell i; replace T6 := Aside0.mk (T6.out.below hb); replace ht6 := fun i => T6.out.cell i; replace T8 := Aside0.mk (T8.out.below hb); replace ht8 := fun i => T8.out.cell i; clear hb) | (go_at_call 80; (with_reducible refine (equal_x oneH canH oneH_wf canH_wf true aw09_7 V2 _ _ R.out C.out).mono ?_); rintro e V3 ⟨rfl, hb⟩; replace B := Aside0.mk (below_then B.out B.out.size hb); replace C := Aside0.mk (C.out.below hb); replace Bd := Aside0.mk (Bd.out.below hb); replace M := Aside0.mk (M.out.below hb); replace R := Aside0.mk (R.out.below hb); replace T3 := Aside0.mk (T3.out.below hb); replace ht3 := fun i => T3.out.cell i; replace T5 := Aside0.mk (T5.out.below hb); replace ht5 := fun i => T5.out.cell i; replace T6 := Aside0.mk (T6.out.below hb); replace ht6 := fun i => T6.out.cell i; replace T8 := Aside0.mk (T8.out.below hb); replace ht8 := fun i => T8.out.cell i; clear hb) | (go_at_call 149; (with_reducible refine (one_x V3).mono ?_); rintro e V4 ⟨yA5, yc5, yA6, yc6, yA7, yc7, yA8, yc8, rfl, hh, hb⟩; replace B := Aside0.mk (below_then B.out B.out.size hb); replace C := Aside0.mk (C.out.below hb); replace Bd := Aside0.mk (Bd.out.below hb); replace M := Aside0.mk (M.out.below hb); replace R := Aside0.mk (R.out.below hb); replace T3 := Aside0.mk (T3.out.below hb); replace ht3 := fun i => T3.out.cell i; replace T5 := Aside0.mk (T5.out.below hb); replace ht5 := fun i => T5.out.cell i; replace T6 := Aside0.mk (T6.out.below hb); replace ht6 := fun i => T6.out.cell i; replace T8 := Aside0.mk (T8.out.below hb); replace ht8 := fun i => T8.out.cell i; have X4 := Aside0.mk hh; clear hb hh) | (go_at_call 80; (with_reducible refine (equal_x oneH badH oneH_wf badH_wf false aw09_8 V4 _ _ X4.out Bd.out).mono ?_); rintro e V5 ⟨rfl, hb⟩; replace B := Aside0.mk (below_then B.out B.out.size hb); replace C := Aside0.mk (C.out.below hb); replace Bd := Aside0.mk (Bd.out.below hb); replace M := Aside0.mk (M.out.below hb); replace R := Aside0.mk (R.out.below hb); replace X4 := Aside0.mk (X4.out.below hb); replace T3 := Aside0.mk (T3.out.below hb); replace ht3 := fun i => T3.out.cell i; replace T5 := Aside0.mk (T5.out.below hb); replace ht5 := fun i => T5.out.cell i; replace T6 := Aside0.mk (T6.out.below hb); replace ht6 := fun i => T6.out.cell i; replace T8 := Aside0.mk (T8.out.below hb); replace ht8 := fun i => T8.out.cell i; clear hb) | (go_at_call 72; (with_reducible refine (hist_NaN.calls _ _ V5 aw09_9).mono ?_); rintro e V6 ⟨rfl, hb0⟩; have hb := hb0.below; replace B := Aside0.mk (below_then B.out B.out.size hb); replace C := Aside0.mk (C.out.below hb); replace Bd := Aside0.mk (Bd.out.below hb); replace M := Aside0.mk (M.out.below hb); replace R := Aside0.mk (R.out.below hb); replace T3 := Aside0.mk (T3.out.below hb); replace ht3 := fun i => T3.out.cell i; replace T5 := Aside0.mk (T5.out.below hb); replace ht5 := fun i => T5.out.cell i; replace T6 := Aside0.mk (T6.out.below hb); replace ht6 := fun i => T6.out.cell i; replace T8 := Aside0.mk (T8.out.below hb); replace ht8 := fun i => T8.out.cell i; clear hb; clear hb0) | (go_at_call 74; (with_reducible refine (hist_Threshold.calls _ _ V6 aw09_10).mono ?_); rintro e V7 ⟨rfl, hb0⟩; have hb := hb0.below; replace B := Aside0.mk (below_then B.out B.out.size hb); replace C := Aside0.mk (C.out.below hb); replace Bd := Aside0.mk (Bd.out.below hb); replace M := Aside0.mk (M.out.below hb); replace R := Aside0.mk (R.out.below hb); replace T3 := Aside0.mk (T3.out.below hb); replace ht3 := fun i => T3.out.cell i; replace T5 := Aside0.mk (T5.out.below hb); replace ht5 := fun i => T5.out.cell i; replace T6 := Aside0.mk (T6.out.below hb); replace ht6 := fun i => T6.out.cell i; replace T8 := Aside0.mk (T8.out.below hb); replace ht8 := fun i => T8.out.cell i; clear hb; clear hb0))
    all_goals go_wp2
    all_goals go_ret
    all_goals exact ⟨rfl, B.out⟩
end Go.Proofs.Ytacgeafjilipdaa.P
namespace Go.Proofs.Ytacgeafjilipdaa.P
open Go.RowKit Go.Shelf Go.Proofs.YtacgeafjilipdaaW.PrintWords Go.Proofs.YtacgeafjilipdaaW.PrintLast Go.Proofs.YtacgeafjilipdaaW.PrintMore
set_option linter.unusedVariables false
set_option linter.unusedSimpArgs false
def wfI (h : Hi) : Prop := i64 h.f0 ∧ u64 h.f1 ∧ u64 h.f2 ∧ u64 h.f3 ∧ u64 h.f4 ∧ wfSps h.f5 ∧ wfSps h.f6 ∧ i64s h.f7 ∧ i64s h.f8
instance (h : Hi) : Decidable (wfI h) := by unfold wfI; exact inferInstance
theorem wfH_of {h : Hi} (x : wfI h) (h7 : h.f7.length ≤ 300) (h8 : h.f8.length ≤ 300) : wfH h := ⟨x.1, x.2.1, x.2.2.1, x.2.2.2.1, x.2.2.2.2.1, x.2.2.2.2.2.1, x.2.2.2.2.2.2.1, x.2.2.2.2.2.2.2.1, x.2.2.2.2.2.2.2.2, by omega, by omega⟩
theorem wfI_of {x : S64} (h : wf64 x) : wfI x := ⟨i64_of h.1, u64_of h.2.1, u64_of h.2.2.1, u64_of h.2.2.2.1, u64_of h.2.2.2.2.1, wfSps_of h.2.2.2.2.2.1, wfSps_of h.2.2.2.2.2.2.1, i64_all h.2.2.2.2.2.2.2.1, i64_all h.2.2.2.2.2.2.2.2⟩
end Go.Proofs.Ytacgeafjilipdaa.P
namespace Go.Proofs.Ytacgeafjilipdaa.P
open Go.RowKit Go.Proofs.YtacgeafjilipdaaW.PrintWords Go.Proofs.YtacgeafjilipdaaW.PrintLast Go.Proofs.YtacgeafjilipdaaW.PrintMore
set_option linter.unusedVariables false
set_option linter.unusedSimpArgs false
theorem sums_diffs : ∀ (o : List Int) (a : Int) (l : List Int), (∀ x ∈ o, i64 x) → diffsFrom a o = some l → sumsFrom a l = some o
  | [], a, l, _, h => by cases h; rfl
  | x :: o, a, l, hw, h => by
    simp only [diffsFrom] at h
    split at h
    · rename_i hx
      cases hq : diffsFrom x o with
      | none => rw [hq] at h; simp at h
      | some l' =>
        rw [hq] at h; simp at h; subst h
        have ih := sums_diffs o x l' (fun y hy => hw y (List.mem_cons_of_mem _ hy)) hq
        have hx1 := hw x (List.mem_cons_self ..)
        have e : a + (x - a) = x := by omega
        simp only [sumsFrom]
        rw [e, if_pos hx1, ih]; rfl
    · cases h
theorem diffs_nonneg : ∀ (o : List Int) (a : Int), 0 ≤ a ∧ a ≤ 9223372036854775807 → (∀ x ∈ o, 0 ≤ x ∧ x ≤ 9223372036854775807) → ∃ d, diffsFrom a o = some d
  | [], a, _, _ => ⟨[], rfl⟩
  | x :: o, a, ha, h => by
    have hx := h x (List.mem_cons_self ..)
    obtain ⟨d, hd⟩ := diffs_nonneg o x hx (fun y hy => h y (List.mem_cons_of_mem _ hy))
    refine ⟨(x - a) :: d, ?_⟩
    simp only [diffsFrom]
    rw [if_pos (show i64 (x - a) from ⟨by omega, by omega⟩), hd]; rfl
theorem zip_self : ∀ (l : List Pr), List.zipWith (fun p x => (⟨p, x⟩ : Pr)) (l.map (·.f0)) (l.map (·.f1)) = l
  | [] => rfl
  | x :: l => by simp only [List.map_cons, List.zipWith_cons_cons, zip_self l]
theorem ups_rises : ∀ (l : List Pr) (e : Int), Ups (fun p : Pr => p.f0) l → (∀ p ∈ l, e ≤ p.f0 ∧ p.f0 ≤ 1048576) → rises e (l.map (·.f0)) = true
  | [], _, _, _ => rfl
  | x :: l, e, hu, h => by
    have hx := h x (List.mem_cons_self ..)
    simp only [List.map_cons, rises, Bool.and_eq_true, decide_eq_true_eq]
    exact ⟨hx, ups_rises l (x.f0 + 1) hu.tail (fun p hp => ⟨by have := hu.head p hp; omega, (h p (List.mem_cons_of_mem _ hp)).2⟩)⟩
theorem unzip_ok {l : List Pr} (hr : rises (-1048576) (l.map (·.f0)) = true) (hl : l.length ≤ 1024) : unzipRes l = (spansOf (l.map (·.f0)), l.map (·.f1), 0) := by
  have hs := spInv_take _ hr
  have h1 := hs.len
  rw [List.length_map] at h1
  have hf : fromRes (l.map (·.f0)) = (spansOf (l.map (·.f0)), 0) := by
    unfold fromRes
    rw [if_pos hr, if_neg (by rw [List.length_map]; omega), if_neg (by omega)]
  unfold unzipRes; rw [hf]; simp
theorem side_laid {l : List Pr} (hw : wfRow l) (hr : rises (-1048576) (l.map (·.f0)) = true) (hl : l.length ≤ 1024) {d : List Int} (hd : diffsFrom 0 (l.map (·.f1)) = some d) :
    sideRes (spansOf (l.map (·.f0))) d = if (l.map (·.f1)).any (fun x => decide (x < 0)) = true then ([], 22) else (l, 0) := by
  have hs := spInv_take _ hr
  have h1 := hs.len
  rw [List.length_map] at h1
  have hc := spansOf_check hr (by rw [List.length_map]; omega) (by omega)
  have hsum := sums_diffs _ _ _ (by intro x hx; obtain ⟨p, hp, rfl⟩ := List.mem_map.1 hx; exact (hw.1 p hp).2) hd
  have hdl := sumsFrom_length d 0 _ hsum
  have hcn := hs.cnt
  rw [List.length_map] at hdl hcn
  unfold sideRes
  rw [if_pos hc, if_pos (by omega), hsum]
  simp only
  rw [hs.pl, zip_self]
theorem any_neg {l : List Pr} (h : cnts l) : (l.map (·.f1)).any (fun x => decide (x < 0)) = false := by
  rw [List.any_eq_false]
  intro x hx
  obtain ⟨p, hp, rfl⟩ := List.mem_map.1 hx
  have := h p hp
  simp; omega
theorem lay_ok {l : List Pr} (h : RowOK l) (hb : ∀ p ∈ l, -1048576 ≤ p.f0 ∧ p.f0 ≤ 1048576) (hl : l.length ≤ 1024) : ∃ d, layR l = (spansOf (l.map (·.f0)), d, 0) ∧ sideRes (spansOf (l.map (·.f0))) d = (l, 0) ∧ canonB true (spansOf (l.map (·.f0))) = true ∧ spCheck (spansOf (l.map (·.f0))) = 0 ∧ d.length = l.length ∧ (spansOf (l.map (·.f0))).length ≤ l.length := by
  have hr := ups_rises l _ h.ups hb
  obtain ⟨d, hd⟩ := diffs_nonneg (l.map (·.f1)) 0 (by omega) (by intro x hx; obtain ⟨p, hp, rfl⟩ := List.mem_map.1 hx; exact (h.cnt p hp).2)
  have hs := spInv_take _ hr
  have h1 := hs.len
  rw [List.length_map] at h1
  have hdl : d.length = l.length := by
    have hsum := sums_diffs _ _ _ (by intro x hx; obtain ⟨p, hp, rfl⟩ := List.mem_map.1 hx; exact (h.wf.1 p hp).2) hd
    have := sumsFrom_length d 0 _ hsum
    rw [List.length_map] at this; omega
  refine ⟨d, ?_, ?_, hs.can, spansOf_check hr (by rw [List.length_map]; omega) (by omega), hdl, h1⟩
  · unfold layR
    rw [unzip_ok hr hl, hd]; simp
  · rw [side_laid h.wf hr hl hd, any_neg h.cnt]; simp
theorem some0_ok {l : List Pr} (h : RowOK l) : RowOK (some0 l) :=
  ⟨some0_wf h.wf, Nat.le_trans (List.length_filter_le _ _) h.len, fun p hp => h.cnt p (List.mem_filter.1 hp).1, h.ups.filter _⟩
theorem some0_some0 (l : List Pr) : some0 (some0 l) = some0 l := by unfold some0; rw [List.filter_filter]; congr 1; funext x; simp
theorem sumV_some0 : ∀ (l : List Pr), sumV (some0 l) = sumV l
  | [] => rfl
  | x :: l => by
    have ih := sumV_some0 l
    unfold some0 sumV at *
    rw [List.filter_cons]
    by_cases c : x.f1 = 0
    · simp only [c, beq_self_eq_true, Bool.not_true, Bool.false_eq_true, if_false, List.map_cons, List.sum_cons, Int.zero_add]; exact ih
    · have : (!(x.f1 == 0)) = true := by simp [c]
      rw [if_pos this]; simp only [List.map_cons, List.sum_cons, ih]
theorem fits_congr (zc ct sm : Int) {p p' n n' : List Pr} (h1 : sumV p' = sumV p) (h2 : sumV n' = sumV n) : fits zc ct sm p' n' = fits zc ct sm p n := by
  unfold fits totalRes sumR
  simp only [List.map_cons, List.map_nil, h1, h2]
theorem side_bounds {l : List Sp} {d : List Int} (h0 : (sideRes l d).2 = 0) : (∀ p ∈ (sideRes l d).1, -1048576 ≤ p.f0 ∧ p.f0 ≤ 1048576) ∧ (sideRes l d).1.length = d.length ∧ (sideRes l d).1.map (·.f0) = plN 0 l ∧ spCheck l = 0 := by
  unfold sideRes at h0 ⊢
  by_cases c1 : spCheck l = 0
  rotate_left
  · rw [if_neg c1] at h0; exact absurd h0 c1
  rw [if_pos c1] at h0 ⊢
  by_cases c2 : cntN l = d.length
  rotate_left
  · rw [if_neg c2] at h0; cases h0
  rw [if_pos c2] at h0 ⊢
  cases hs : sumsFrom 0 d with
  | none => rw [hs] at h0; cases h0
  | some c =>
    rw [hs] at h0
    simp only at h0 ⊢
    by_cases c3 : c.any (fun x => decide (x < 0)) = true
    · rw [if_pos c3] at h0; cases h0
    rw [if_neg c3]
    have hr := rises_of_right c1
    have hpl := plN_length l 0 (fun s hs => (spRight_pos l _ _ _ (spCheck_zero c1).2 s hs).1)
    have hc := sumsFrom_length d 0 c hs
    have hz := zipL (plN 0 l) c (by omega)
    refine ⟨fun y hy => ?_, by simp; omega, hz.1, c1⟩
    have : y.f0 ∈ plN 0 l := by
      obtain ⟨i, hi, rfl⟩ := List.mem_iff_getElem.1 hy
      simp only [List.getElem_zipWith]; exact List.getElem_mem _
    exact rises_i64 hr _ this
theorem checkR_zero {h : Hi} (hc : checkR h = 0) : headE h = 0 ∧ (sideRes h.f5 h.f7).2 = 0 ∧ (sideRes h.f6 h.f8).2 = 0 ∧ fits h.f2 h.f3 h.f4 (sideRes h.f5 h.f7).1 (sideRes h.f6 h.f8).1 = true := by
  rw [checkR_eq] at hc
  by_cases c1 : headE h = 0
  rotate_left
  · rw [if_pos c1] at hc; exact absurd hc c1
  rw [if_neg (by simp [c1])] at hc
  by_cases c2 : (sideRes h.f5 h.f7).2 = 0
  rotate_left
  · rw [if_pos c2] at hc; exact absurd hc c2
  rw [if_neg (by simp [c2])] at hc
  by_cases c3 : (sideRes h.f6 h.f8).2 = 0
  rotate_left
  · rw [if_pos c3] at hc; exact absurd hc c3
  rw [if_neg (by simp [c3])] at hc
  by_cases c4 : fits h.f2 h.f3 h.f4 (sideRes h.f5 h.f7).1 (sideRes h.f6 h.f8).1 = true
  · exact ⟨c1, c2, c3, c4⟩
  · rw [if_neg c4] at hc; cases hc
theorem checkR_right {h : Hi} (c1 : headE h = 0) (c2 : (sideRes h.f5 h.f7).2 = 0) (c3 : (sideRes h.f6 h.f8).2 = 0) (c4 : fits h.f2 h.f3 h.f4 (sideRes h.f5 h.f7).1 (sideRes h.f6 h.f8).1 = true) : checkR h = 0 := by
  rw [checkR_eq, if_neg (by simp [c1]), if_neg (by simp [c2]), if_neg (by simp [c3]), if_pos c4]
theorem canon_right {h : Hi} (hw : wfH h) (hc : checkR h = 0) (h7 : h.f7.length ≤ 1024) (h8 : h.f8.length ≤ 1024) :
    ∃ c : Hi, canonR h = (c, 0) ∧ checkR c = 0 ∧ openR c = (some0 (openR h).1, some0 (openR h).2.1, 0) ∧ canonR c = (c, 0) ∧ equalR c h = true ∧ sameNums c h ∧ canonB true c.f5 = true ∧ canonB true c.f6 = true ∧ spCheck c.f5 = 0 ∧ spCheck c.f6 = 0 ∧ c.f5.length ≤ 1024 ∧ c.f6.length ≤ 1024 ∧ c.f7.length ≤ 1024 ∧ c.f8.length ≤ 1024 ∧ wfH c := by
  obtain ⟨z1, z2, z3, z4⟩ := checkR_zero hc
  have ho := openR_right hc
  have b5 := side_bounds z2
  have b6 := side_bounds z3
  have r5 := sideRes_row (l := h.f5) hw.2.2.2.2.2.2.2.1
  have r6 := sideRes_row (l := h.f6) hw.2.2.2.2.2.2.2.2.1
  generalize hp : (sideRes h.f5 h.f7).1 = p at *
  generalize hn : (sideRes h.f6 h.f8).1 = n at *
  have lp : (some0 p).length ≤ p.length := List.length_filter_le _ _
  have ln : (some0 n).length ≤ n.length := List.length_filter_le _ _
  have bp := b5.2.1; have bn := b6.2.1
  obtain ⟨dp, e1, e2, e3, e4, e5, e6⟩ := lay_ok (some0_ok r5) (fun q hq => b5.1 q (List.mem_filter.1 hq).1) (by omega)
  obtain ⟨dn, g1, g2, g3, g4, g5, g6⟩ := lay_ok (some0_ok r6) (fun q hq => b6.1 q (List.mem_filter.1 hq).1) (by omega)
  have hmade : madeH h (some0 p) (some0 n) = ⟨h.f0, h.f1, h.f2, h.f3, h.f4, spansOf ((some0 p).map (·.f0)), spansOf ((some0 n).map (·.f0)), dp, dn⟩ := by unfold madeH; rw [e1, g1]
  have hmw := madeH_wf hw (some0_ok r5).wf (some0_ok r6).wf
  rw [hmade] at hmw
  generalize hC : (⟨h.f0, h.f1, h.f2, h.f3, h.f4, spansOf ((some0 p).map (·.f0)), spansOf ((some0 n).map (·.f0)), dp, dn⟩ : Hi) = c at *
  have hck : checkR c = 0 := by
    subst hC
    refine checkR_right z1 (by simp only [e2]) (by simp only [g2]) ?_
    simp only [e2, g2]
    rw [fits_congr _ _ _ (sumV_some0 p) (sumV_some0 n)]; exact z4
  have hoc : openR c = (some0 p, some0 n, 0) := by
    rw [openR_right hck]
    subst hC
    simp only [e2, g2]
  have hcan : canonR h = (c, 0) := by
    unfold canonR
    rw [if_neg (by simp [hc]), ho]
    unfold makeR
    rw [e1, g1, hmade]
    simp [hck]
  have hn5 : sameNums c h := by subst hC; exact ⟨rfl, rfl, rfl, rfl, rfl⟩
  refine ⟨c, hcan, hck, by rw [hoc, ho], ?_, ?_, hn5, by subst hC; exact e3, by subst hC; exact g3, by subst hC; exact e4, by subst hC; exact g4, by subst hC; simp only; omega, by subst hC; simp only; omega, by subst hC; simp only; omega, by subst hC; simp only; omega, hmw⟩
  · unfold canonR
    rw [if_neg (by simp [hck]), hoc]
    simp only [some0_some0]
    have : madeH c (some0 p) (some0 n) = c := by
      have e : madeH c (some0 p) (some0 n) = madeH h (some0 p) (some0 n) := by
        obtain ⟨q0, q1, q2, q3, q4⟩ := hn5
        unfold madeH
        rw [q0, q1, q2, q3, q4]
      rw [e, hmade]
    unfold makeR
    rw [e1, g1, this]
    simp [hck]
  · unfold equalR
    rw [decide_eq_true hn5, hck, hc, hoc, ho]
    simp [some0_some0]
end Go.Proofs.Ytacgeafjilipdaa.P
namespace Go.Proofs.Ytacgeafjilipdaa.P
open Go.RowKit Go.Shelf Go.Proofs.YtacgeafjilipdaaW.PrintWords Go.Proofs.YtacgeafjilipdaaW.PrintLast Go.Proofs.YtacgeafjilipdaaW.PrintMore
set_option linter.unusedVariables false
set_option linter.unusedSimpArgs false
theorem canonical_c (l : List Sp) (hw : wfSps l) (hc : canonB true l = true) (hk : spCheck l = 0) (w : World) (v : Value) (hv : SI kSp w v l) : Calls Try.prog 47 #[v] w fun e w' => e = .returned (.bool true) ∧ Below w.heap.size w w' := by
  obtain ⟨A, c, rfl, hcc, hr⟩ := hv
  have hl := (spCheck_zero hk).1
  exact span_Canonical.calls (l.length + 2050) A c l true w hr hcc (by rw [canonical_eq l hw (by omega) _ (by omega), hc, hk]; rfl)
theorem same_c (l : List Sp) (hl : l.length ≤ 4096) (w : World) (u v : Value) (hu : SI kSp w u l) (hv : SI kSp w v l) : Calls Try.prog 86 #[u, v] w fun e w' => e = .returned (.bool true) ∧ Below w.heap.size w w' := by
  obtain ⟨A, c, rfl, hcc, hr⟩ := hu
  obtain ⟨A1, c1, rfl, hcc1, hr1⟩ := hv
  exact (tidepolelaw09_same.calls (l.length + 1) A c l A1 c1 l true w hr hcc hr1 hcc1 (same09_eq l (by omega) _ (by omega))).mono fun e w1 h => ⟨h.1, h.2.below⟩
theorem like2_c (l : List Int) (hl : l.length ≤ 4096) (w : World) (u v : Value) (hu : SI (Kd.int .i64) w u l) (hv : SI (Kd.int .i64) w v l) : Calls Try.prog 92 #[u, v] w fun e w' => e = .returned (.bool true) ∧ Below w.heap.size w w' := by
  obtain ⟨A, c, rfl, hcc, hr⟩ := hu
  obtain ⟨A1, c1, rfl, hcc1, hr1⟩ := hv
  exact (tidepolelaw09_like2.calls (l.length + 1) A c l A1 c1 l true w hr hcc hr1 hcc1 (like2_eq l (by omega) _ (by omega))).mono fun e w1 h => ⟨h.1, h.2.below⟩
theorem empty_x (a5 a6 a7 a8 : Option Addr) (c5 c6 c7 c8 : Nat) (w : World) :
    Calls Try.prog 85 #[.agg #[.int .i64 0, .int .u64 0, .int .u64 0, .int .u64 0, .int .u64 0, .slice a5 0 c5, .slice a6 0 c6, .slice a7 0 c7, .slice a8 0 c8]] w fun e w' => e = .returned (.bool true) ∧ Below w.heap.size w w' := by
  have hu := Try.underlying64
  go_enter Try.func85, Try.ntmps85
  go_wp2
  go_ret
  exact ⟨rfl, below_alloc (Below.refl _ _) _⟩
theorem HF.empty_ {b : Nat} {w : World} {v : Value} (h : HF b w v emptyH) : ∃ A5 c5 A6 c6 A7 c7 A8 c8, v = .agg #[.int .i64 0, .int .u64 0, .int .u64 0, .int .u64 0, .int .u64 0, .slice A5 0 c5, .slice A6 0 c6, .slice A7 0 c7, .slice A8 0 c8] := by
  obtain ⟨A5, c5, A6, c6, A7, c7, A8, c8, e⟩ := h.open_
  exact ⟨A5, c5, A6, c6, A7, c7, A8, c8, e⟩
set_option maxHeartbeats 8000000 in
set_option maxRecDepth 100000 in
theorem full_c (h : Hi) (hw : wfH h) (hck : checkR h = 0) (hp : some0 (openR h).1 = (openR h).1) (hn : some0 (openR h).2.1 = (openR h).2.1) (w : World) (u : Value) (hu : HI w u h) : Calls Try.prog 91 #[u] w fun e w' => e = .returned (.bool true) ∧ Below w.heap.size w w' := by
  have hud := Try.underlying64
  have rr := openR_row hw
  have p0 := pairs_c h hw 0
  have p1 := pairs_c h hw 1
  rw [show pairsR h 0 = ((openR h).1, checkR h) from rfl, hck] at p0
  rw [show pairsR h 1 = ((openR h).2.1, checkR h) from rfl, hck] at p1
  have q0 := without_c (openR h).1 (by have := rr.1.len; omega)
  have q1 := without_c (openR h).2.1 (by have := rr.2.len; omega)
  rw [hp] at q0
  rw [hn] at q1
  generalize (openR h).1 = p at *
  generalize (openR h).2.1 = n at *
  have P0 := Aside0.mk p0
  have P1 := Aside0.mk p1
  have Q0 := Aside0.mk q0
  have Q1 := Aside0.mk q1
  clear p0 p1 q0 q1 hp hn rr hck hw
  obtain ⟨A5, c5, A6, c6, A7, c7, A8, c8, e, h5, h6, h7, h8⟩ := hu.open_
  subst e
  have B := Aside0.mk (below_alloc (Below.refl w.heap.size w) (.cells #[.int .i64 h.f0, .int .u64 h.f1, .int .u64 h.f2, .int .u64 h.f3, .int .u64 h.f4, .slice A5 h.f5.length c5, .slice A6 h.f6.length c6, .slice A7 h.f7.length c7, .slice A8 h.f8.length c8] 64))
  have X := Aside0.mk (Blk.new w #[.int .i64 h.f0, .int .u64 h.f1, .int .u64 h.f2, .int .u64 h.f3, .int .u64 h.f4, .slice A5 h.f5.length c5, .slice A6 h.f6.length c6, .slice A7 h.f7.length c7, .slice A8 h.f8.length c8] 64)
  have hx := fun i => X.out.cell i
  have HV := Aside0.mk (hu.below B.out)
  have H5 := Aside0.mk (h5.below B.out)
  have H6 := Aside0.mk (h6.below B.out)
  have H7 := Aside0.mk (h7.below B.out)
  have H8 := Aside0.mk (h8.below B.out)
  clear hu h5 h6 h7 h8
  go_enter Try.func91, Try.ntmps91
  go_wp2
  go_loopg [6] 2 (fun gg v6 wr => ∃ i : Nat, v6 = .int .i64 (i : Int) ∧ Aside0 (i + gg = 2) ∧ Aside0 (Below w.heap.size w wr ∧ Blk wr w.heap.size #[.int .i64 h.f0, .int .u64 h.f1, .int .u64 h.f2, .int .u64 h.f3, .int .u64 h.f4, .slice A5 h.f5.length c5, .slice A6 h.f6.length c6, .slice A7 h.f7.length c7, .slice A8 h.f8.length c8] 64 ∧ HI wr (.agg #[.int .i64 h.f0, .int .u64 h.f1, .int .u64 h.f2, .int .u64 h.f3, .int .u64 h.f4, .slice A5 h.f5.length c5, .slice A6 h.f6.length c6, .slice A7 h.f7.length c7, .slice A8 h.f8.length c8]) h))
  case atStart => exact ⟨0, rfl, ⟨rfl⟩, ⟨B.out, X.out, HV.out⟩⟩
  case round =>
    obtain ⟨i, rfl, HI_, HS⟩ := hrel
    clear B X HV hx
    have B := Aside0.mk HS.out.1
    have X := Aside0.mk HS.out.2.1
    have HV := Aside0.mk HS.out.2.2
    have hx := fun i => X.out.cell i
    clear HS
    by_cases hlt : i < 2
    · obtain ⟨ko, rfl⟩ : ∃ ko, gk = ko + 1 := ⟨gk - 1, by have := HI_.out; omega⟩
      by_cases h0 : i = 0
      · subst h0
        clear hlt
        go_wp2_with (first | (go_at_call 76; (with_reducible refine (P0.out _ _ HV.out).mono ?_); rintro e W1 ⟨v0, rfl, hl, hb⟩; replace B := Aside0.mk (below_then B.out B.out.size hb); replace HV := Aside0.mk (HV.out.below hb); replace X := Aside0.mk (X.out.below hb); replace hx := fun i => X.out.cell i; have L := Aside0.mk hl; have hl' := L.out; obtain ⟨LA, Lc, eL, -⟩ := hl'; subst eL; clear hl hb) | (go_at_call 39; (with_reducible refine (Q0.out _ _ L.out).mono ?_); rintro e W2 ⟨v1, rfl, hl, hb⟩; replace B := Aside0.mk (below_then B.out B.out.size hb); replace HV := Aside0.mk (HV.out.below hb); replace L := Aside0.mk (L.out.below hb); replace X := Aside0.mk (X.out.below hb); replace hx := fun i => X.out.cell i; have M := Aside0.mk hl; have hl' := M.out; obtain ⟨MA, Mc, eM, -⟩ := hl'; subst eM; clear hl hb))
        go_roundg ko
        case measure => omega
        case rel => exact ⟨1, by go_num, ⟨by have := HI_.out; omega⟩, ⟨B.out, X.out, HV.out⟩⟩
      · obtain rfl : i = 1 := by omega
        clear hlt h0
        go_wp2_with (first | (go_at_call 76; (with_reducible refine (P1.out _ _ HV.out).mono ?_); rintro e W1 ⟨v0, rfl, hl, hb⟩; replace B := Aside0.mk (below_then B.out B.out.size hb); replace HV := Aside0.mk (HV.out.below hb); replace X := Aside0.mk (X.out.below hb); replace hx := fun i => X.out.cell i; have L := Aside0.mk hl; have hl' := L.out; obtain ⟨LA, Lc, eL, -⟩ := hl'; subst eL; clear hl hb) | (go_at_call 39; (with_reducible refine (Q1.out _ _ L.out).mono ?_); rintro e W2 ⟨v1, rfl, hl, hb⟩; replace B := Aside0.mk (below_then B.out B.out.size hb); replace HV := Aside0.mk (HV.out.below hb); replace L := Aside0.mk (L.out.below hb); replace X := Aside0.mk (X.out.below hb); replace hx := fun i => X.out.cell i; have M := Aside0.mk hl; have hl' := M.out; obtain ⟨MA, Mc, eM, -⟩ := hl'; subst eM; clear hl hb))
        go_roundg ko
        case measure => omega
        case rel => exact ⟨2, by go_num, ⟨by have := HI_.out; omega⟩, ⟨B.out, X.out, HV.out⟩⟩
    · obtain rfl : i = 2 := by have := HI_.out; omega
      clear hlt
      go_wp2
      go_ret
      exact ⟨rfl, B.out⟩
end Go.Proofs.Ytacgeafjilipdaa.P
namespace Go.Proofs.Ytacgeafjilipdaa.P
open Go.RowKit Go.Shelf Go.Proofs.YtacgeafjilipdaaW.PrintWords Go.Proofs.YtacgeafjilipdaaW.PrintLast Go.Proofs.YtacgeafjilipdaaW.PrintMore
set_option linter.unusedVariables false
set_option linter.unusedSimpArgs false
set_option maxHeartbeats 32000000 in
set_option maxRecDepth 100000 in
theorem histCanon_no (h : Hi) (hW : wfH h) (n5 : h.f5.length ≤ 400) (n6 : h.f6.length ≤ 400) (hr : checkR h ≠ 0) (cs : ∀ (w : World) (v : Value), HI w v h → Calls Try.prog 69 #[v] w fun e w' => e = .returned (.bool true) ∧ Below w.heap.size w w') (w : World) (u : Value) (hu : HI w u h) : Calls Try.prog 18 #[u] w fun e w' => e = .returned (.bool true) ∧ Below w.heap.size w w' := by
  have hud := Try.underlying64
  have cc := canon_c h hW
  rw [show canonR h = (emptyH, checkR h) by unfold canonR; rw [if_pos hr]] at cc
  have cr := ref_c h (by omega) (by omega)
  have cq := refCheck_c h hW
  generalize checkR h = r at *
  have d : (r != 0) = true := bne_iff_ne.2 hr
  have CS := Aside0.mk cs
  have CC := Aside0.mk cc
  have CR := Aside0.mk cr
  have CQ := Aside0.mk cq
  clear cs cc cr cq hr hW n5 n6
  obtain ⟨A5, c5, A6, c6, A7, c7, A8, c8, e, h5, h6, h7, h8⟩ := hu.open_
  subst e
  have B := Aside0.mk (below_alloc (Below.refl w.heap.size w) (.cells #[.int .i64 h.f0, .int .u64 h.f1, .int .u64 h.f2, .int .u64 h.f3, .int .u64 h.f4, .slice A5 h.f5.length c5, .slice A6 h.f6.length c6, .slice A7 h.f7.length c7, .slice A8 h.f8.length c8] 64))
  have X := Aside0.mk (Blk.new w #[.int .i64 h.f0, .int .u64 h.f1, .int .u64 h.f2, .int .u64 h.f3, .int .u64 h.f4, .slice A5 h.f5.length c5, .slice A6 h.f6.length c6, .slice A7 h.f7.length c7, .slice A8 h.f8.length c8] 64)
  have hx := fun i => X.out.cell i
  have HV := Aside0.mk (hu.below B.out)
  have H5 := Aside0.mk (h5.below B.out)
  have H6 := Aside0.mk (h6.below B.out)
  have H7 := Aside0.mk (h7.below B.out)
  have H8 := Aside0.mk (h8.below B.out)
  clear hu h5 h6 h7 h8
  go_enter Try.func18, Try.ntmps18
  go_wp2_with (first | (go_at_call 69; (with_reducible refine (CS.out _ _ HV.out).mono ?_); rintro e W1 ⟨rfl, hb⟩; replace B := Aside0.mk (below_then B.out B.out.size hb); replace HV := Aside0.mk (HV.out.below hb); replace X := Aside0.mk (X.out.below hb); replace hx := fun i => X.out.cell i; clear  hb) | (go_at_call 90; (with_reducible refine (CC.out _ _ HV.out).mono ?_); rintro e W2 ⟨cv, rfl, hc, hb⟩; replace B := Aside0.mk (below_then B.out B.out.size hb); replace HV := Aside0.mk (HV.out.below hb); replace X := Aside0.mk (X.out.below hb); replace hx := fun i => X.out.cell i; obtain ⟨cA5, cc5, cA6, cc6, cA7, cc7, cA8, cc8, ec⟩ := hc.empty_; clear hc; subst ec; have hxa := fun i => (X.out.alloc (.cells #[.int .i64 0, .int .u64 0, .int .u64 0, .int .u64 0, .int .u64 0, .slice cA5 0 cc5, .slice cA6 0 cc6, .slice cA7 0 cc7, .slice cA8 0 cc8] 64)).cell i; clear hb))
  (try clear hxa)
  have hal := below_alloc (Below.refl W2.heap.size W2) (.cells #[.int .i64 0, .int .u64 0, .int .u64 0, .int .u64 0, .int .u64 0, .slice cA5 0 cc5, .slice cA6 0 cc6, .slice cA7 0 cc7, .slice cA8 0 cc8] 64)
  replace B := Aside0.mk (below_then B.out B.out.size hal)
  replace HV := Aside0.mk (HV.out.below hal)
  replace X := Aside0.mk (X.out.alloc (.cells #[.int .i64 0, .int .u64 0, .int .u64 0, .int .u64 0, .int .u64 0, .slice cA5 0 cc5, .slice cA6 0 cc6, .slice cA7 0 cc7, .slice cA8 0 cc8] 64)); replace hx := fun i => X.out.cell i
  have T3 := Aside0.mk (Blk.new W2 #[.int .i64 0, .int .u64 0, .int .u64 0, .int .u64 0, .int .u64 0, .slice cA5 0 cc5, .slice cA6 0 cc6, .slice cA7 0 cc7, .slice cA8 0 cc8] 64); have ht3 := fun i => T3.out.cell i; clear hal
  go_wp2_with (first | (go_at_call 71; (with_reducible refine (CR.out _ _ HV.out).mono ?_); rintro e W3 ⟨rv, rfl, hr, hb⟩; replace B := Aside0.mk (below_then B.out B.out.size hb); replace HV := Aside0.mk (HV.out.below hb); replace X := Aside0.mk (X.out.below hb); replace hx := fun i => X.out.cell i; replace T3 := Aside0.mk (T3.out.below hb); replace ht3 := fun i => T3.out.cell i; have RV := Aside0.mk hr; clear hr hb) | (go_at_call 57; (with_reducible refine (CQ.out _ _ RV.out).mono ?_); rintro e W4 ⟨rfl, hb⟩; replace B := Aside0.mk (below_then B.out B.out.size hb); replace HV := Aside0.mk (HV.out.below hb); replace RV := Aside0.mk (RV.out.below hb); replace X := Aside0.mk (X.out.below hb); replace hx := fun i => X.out.cell i; replace T3 := Aside0.mk (T3.out.below hb); replace ht3 := fun i => T3.out.cell i; clear  hb) | (go_at_call 85; (with_reducible refine (empty_x _ _ _ _ _ _ _ _ _).mono ?_); rintro e W5 ⟨rfl, hb⟩; replace B := Aside0.mk (below_then B.out B.out.size hb); replace HV := Aside0.mk (HV.out.below hb); replace RV := Aside0.mk (RV.out.below hb); replace X := Aside0.mk (X.out.below hb); replace hx := fun i => X.out.cell i; replace T3 := Aside0.mk (T3.out.below hb); replace ht3 := fun i => T3.out.cell i; clear  hb) | (go_at_call 70; (with_reducible refine (awake09_c _).mono ?_); rintro e W6 ⟨rfl, hb⟩; replace B := Aside0.mk (below_then B.out B.out.size hb); replace HV := Aside0.mk (HV.out.below hb); replace RV := Aside0.mk (RV.out.below hb); replace X := Aside0.mk (X.out.below hb); replace hx := fun i => X.out.cell i; replace T3 := Aside0.mk (T3.out.below hb); replace ht3 := fun i => T3.out.cell i; clear  hb))
  go_ret
  exact ⟨rfl, B.out⟩
set_option maxHeartbeats 64000000 in
set_option maxRecDepth 100000 in
theorem histCanon_yes (h : Hi) (hW : wfH h) (n5 : h.f5.length ≤ 400) (n6 : h.f6.length ≤ 400) (n7 : h.f7.length ≤ 300) (n8 : h.f8.length ≤ 300) (hr : checkR h = 0) (cs : ∀ (w : World) (v : Value), HI w v h → Calls Try.prog 69 #[v] w fun e w' => e = .returned (.bool true) ∧ Below w.heap.size w w') (w : World) (u : Value) (hu : HI w u h) : Calls Try.prog 18 #[u] w fun e w' => e = .returned (.bool true) ∧ Below w.heap.size w w' := by
  have hud := Try.underlying64
  obtain ⟨c, q1, q2, q3, q4, q5, q6, k5, k6, s5, s6, l5, l6, l7, l8, hWc⟩ := canon_right hW hr (by omega) (by omega)
  have cc0 := canon_c h hW
  rw [q1] at cc0
  have cc : ∀ (w : World) (v : Value), HI w v h → Calls Try.prog 90 #[v] w fun e w' => ∃ v', e = .returned (.tuple #[v', .int .i64 0]) ∧ HI w' v' c ∧ Below w.heap.size w w' := fun w v hv => (cc0 w v hv).mono fun e w1 ⟨v', e1, e2, e3⟩ => ⟨v', e1, e2.now, e3⟩
  have cd0 := canon_c c hWc
  rw [q4] at cd0
  have cd : ∀ (w : World) (v : Value), HI w v c → Calls Try.prog 90 #[v] w fun e w' => ∃ v', e = .returned (.tuple #[v', .int .i64 0]) ∧ HI w' v' c ∧ Below w.heap.size w w' := fun w v hv => (cd0 w v hv).mono fun e w1 ⟨v', e1, e2, e3⟩ => ⟨v', e1, e2.now, e3⟩
  have cr := ref_c h (by omega) (by omega)
  have cq := refCheck_c h hW
  rw [hr] at cq
  have crc := ref_c c (by omega) (by omega)
  have ce := refEqual_c c h hWc hW
  rw [q5] at ce
  have cf := full_c c hWc q2 (by rw [q3]; exact some0_some0 _) (by rw [q3]; exact some0_some0 _)
  have N5 := Aside0.mk (canonical_c c.f5 hWc.2.2.2.2.2.1 k5 s5)
  have N6 := Aside0.mk (canonical_c c.f6 hWc.2.2.2.2.2.2.1 k6 s6)
  have M5 := Aside0.mk (same_c c.f5 (by omega))
  have M6 := Aside0.mk (same_c c.f6 (by omega))
  have M7 := Aside0.mk (like2_c c.f7 (by omega))
  have M8 := Aside0.mk (like2_c c.f8 (by omega))
  have CS := Aside0.mk cs
  have CC := Aside0.mk cc
  have CD := Aside0.mk cd
  have CR := Aside0.mk cr
  have CRc := Aside0.mk crc
  have CQ := Aside0.mk cq
  have CE := Aside0.mk ce
  have CF := Aside0.mk cf
  clear cs cc cc0 cd cd0 cr crc cq ce cf q1 q2 q3 q4 q5 q6 k5 k6 s5 s6 l5 l6 l7 l8 hWc hW n5 n6 n7 n8 hr
  obtain ⟨A5, c5, A6, c6, A7, c7, A8, c8, e, h5, h6, h7, h8⟩ := hu.open_
  subst e
  have B := Aside0.mk (below_alloc (Below.refl w.heap.size w) (.cells #[.int .i64 h.f0, .int .u64 h.f1, .int .u64 h.f2, .int .u64 h.f3, .int .u64 h.f4, .slice A5 h.f5.length c5, .slice A6 h.f6.length c6, .slice A7 h.f7.length c7, .slice A8 h.f8.length c8] 64))
  have X := Aside0.mk (Blk.new w #[.int .i64 h.f0, .int .u64 h.f1, .int .u64 h.f2, .int .u64 h.f3, .int .u64 h.f4, .slice A5 h.f5.length c5, .slice A6 h.f6.length c6, .slice A7 h.f7.length c7, .slice A8 h.f8.length c8] 64)
  have hx := fun i => X.out.cell i
  have HV := Aside0.mk (hu.below B.out)
  have H5 := Aside0.mk (h5.below B.out)
  have H6 := Aside0.mk (h6.below B.out)
  have H7 := Aside0.mk (h7.below B.out)
  have H8 := Aside0.mk (h8.below B.out)
  clear hu h5 h6 h7 h8
  go_enter Try.func18, Try.ntmps18
  go_wp2_with (first | (go_at_call 69; (with_reducible refine (CS.out _ _ HV.out).mono ?_); rintro e W1 ⟨rfl, hb⟩; replace B := Aside0.mk (below_then B.out B.out.size hb); replace HV := Aside0.mk (HV.out.below hb); replace X := Aside0.mk (X.out.below hb); replace hx := fun i => X.out.cell i; clear  hb) | (go_at_call 90; (with_reducible refine (CC.out _ _ HV.out).mono ?_); rintro e W2 ⟨cv, rfl, hc, hb⟩; replace B := Aside0.mk (below_then B.out B.out.size hb); replace HV := Aside0.mk (HV.out.below hb); replace X := Aside0.mk (X.out.below hb); replace hx := fun i => X.out.cell i; have C := Aside0.mk hc; have hc' := C.out; obtain ⟨cA5, cc5, cA6, cc6, cA7, cc7, cA8, cc8, ec, h5, h6, h7, h8⟩ := hc'.open_; subst ec; have C5 := Aside0.mk h5; have C6 := Aside0.mk h6; have C7 := Aside0.mk h7; have C8 := Aside0.mk h8; clear h5 h6 h7 h8; have hxa := fun i => (X.out.alloc (.cells #[.int .i64 c.f0, .int .u64 c.f1, .int .u64 c.f2, .int .u64 c.f3, .int .u64 c.f4, .slice cA5 c.f5.length cc5, .slice cA6 c.f6.length cc6, .slice cA7 c.f7.length cc7, .slice cA8 c.f8.length cc8] 64)).cell i; clear hc hb))
  (try clear hxa)
  have hal := below_alloc (Below.refl W2.heap.size W2) (.cells #[.int .i64 c.f0, .int .u64 c.f1, .int .u64 c.f2, .int .u64 c.f3, .int .u64 c.f4, .slice cA5 c.f5.length cc5, .slice cA6 c.f6.length cc6, .slice cA7 c.f7.length cc7, .slice cA8 c.f8.length cc8] 64)
  replace B := Aside0.mk (below_then B.out B.out.size hal)
  replace HV := Aside0.mk (HV.out.below hal)
  replace C := Aside0.mk (C.out.below hal)
  replace C5 := Aside0.mk (C5.out.below hal)
  replace C6 := Aside0.mk (C6.out.below hal)
  replace C7 := Aside0.mk (C7.out.below hal)
  replace C8 := Aside0.mk (C8.out.below hal)
  replace X := Aside0.mk (X.out.alloc (.cells #[.int .i64 c.f0, .int .u64 c.f1, .int .u64 c.f2, .int .u64 c.f3, .int .u64 c.f4, .slice cA5 c.f5.length cc5, .slice cA6 c.f6.length cc6, .slice cA7 c.f7.length cc7, .slice cA8 c.f8.length cc8] 64)); replace hx := fun i => X.out.cell i
  have T3 := Aside0.mk (Blk.new W2 #[.int .i64 c.f0, .int .u64 c.f1, .int .u64 c.f2, .int .u64 c.f3, .int .u64 c.f4, .slice cA5 c.f5.length cc5, .slice cA6 c.f6.length cc6, .slice cA7 c.f7.length cc7, .slice cA8 c.f8.length cc8] 64); have ht3 := fun i => T3.out.cell i; clear hal
  go_wp2_with (first | (go_at_call 71; (with_reducible refine (CR.out _ _ HV.out).mono ?_); rintro e W3 ⟨rv, rfl, hr, hb⟩; replace B := Aside0.mk (below_then B.out B.out.size hb); replace HV := Aside0.mk (HV.out.below hb); replace C := Aside0.mk (C.out.below hb); replace C5 := Aside0.mk (C5.out.below hb); replace C6 := Aside0.mk (C6.out.below hb); replace C7 := Aside0.mk (C7.out.below hb); replace C8 := Aside0.mk (C8.out.below hb); replace X := Aside0.mk (X.out.below hb); replace hx := fun i => X.out.cell i; replace T3 := Aside0.mk (T3.out.below hb); replace ht3 := fun i => T3.out.cell i; have RV := Aside0.mk hr; clear hr hb) | (go_at_call 57; (with_reducible refine (CQ.out _ _ RV.out).mono ?_); rintro e W4 ⟨rfl, hb⟩; replace B := Aside0.mk (below_then B.out B.out.size hb); replace HV := Aside0.mk (HV.out.below hb); replace C := Aside0.mk (C.out.below hb); replace C5 := Aside0.mk (C5.out.below hb); replace C6 := Aside0.mk (C6.out.below hb); replace C7 := Aside0.mk (C7.out.below hb); replace C8 := Aside0.mk (C8.out.below hb); replace RV := Aside0.mk (RV.out.below hb); replace X := Aside0.mk (X.out.below hb); replace hx := fun i => X.out.cell i; replace T3 := Aside0.mk (T3.out.below hb); replace ht3 := fun i => T3.out.cell i; clear  hb) | (go_at_call 90; (with_reducible refine (CD.out _ _ C.out).mono ?_); rintro e W5 ⟨dv, rfl, hc, hb⟩; replace B := Aside0.mk (below_then B.out B.out.size hb); replace HV := Aside0.mk (HV.out.below hb); replace C := Aside0.mk (C.out.below hb); replace C5 := Aside0.mk (C5.out.below hb); replace C6 := Aside0.mk (C6.out.below hb); replace C7 := Aside0.mk (C7.out.below hb); replace C8 := Aside0.mk (C8.out.below hb); replace RV := Aside0.mk (RV.out.below hb); replace X := Aside0.mk (X.out.below hb); replace hx := fun i => X.out.cell i; replace T3 := Aside0.mk (T3.out.below hb); replace ht3 := fun i => T3.out.cell i; have E := Aside0.mk hc; have hc' := E.out; obtain ⟨dA5, dc5, dA6, dc6, dA7, dc7, dA8, dc8, ec, h5, h6, h7, h8⟩ := hc'.open_; subst ec; have E5 := Aside0.mk h5; have E6 := Aside0.mk h6; have E7 := Aside0.mk h7; have E8 := Aside0.mk h8; clear h5 h6 h7 h8; have hxa := fun i => (X.out.alloc (.cells #[.int .i64 c.f0, .int .u64 c.f1, .int .u64 c.f2, .int .u64 c.f3, .int .u64 c.f4, .slice dA5 c.f5.length dc5, .slice dA6 c.f6.length dc6, .slice dA7 c.f7.length dc7, .slice dA8 c.f8.length dc8] 64)).cell i; have ht3a := fun i => (T3.out.alloc (.cells #[.int .i64 c.f0, .int .u64 c.f1, .int .u64 c.f2, .int .u64 c.f3, .int .u64 c.f4, .slice dA5 c.f5.length dc5, .slice dA6 c.f6.length dc6, .slice dA7 c.f7.length dc7, .slice dA8 c.f8.length dc8] 64)).cell i; clear hc hb))
  (try clear hxa ht3a)
  have hal := below_alloc (Below.refl W5.heap.size W5) (.cells #[.int .i64 c.f0, .int .u64 c.f1, .int .u64 c.f2, .int .u64 c.f3, .int .u64 c.f4, .slice dA5 c.f5.length dc5, .slice dA6 c.f6.length dc6, .slice dA7 c.f7.length dc7, .slice dA8 c.f8.length dc8] 64)
  replace B := Aside0.mk (below_then B.out B.out.size hal)
  replace HV := Aside0.mk (HV.out.below hal)
  replace C := Aside0.mk (C.out.below hal)
  replace C5 := Aside0.mk (C5.out.below hal)
  replace C6 := Aside0.mk (C6.out.below hal)
  replace C7 := Aside0.mk (C7.out.below hal)
  replace C8 := Aside0.mk (C8.out.below hal)
  replace E := Aside0.mk (E.out.below hal)
  replace E5 := Aside0.mk (E5.out.below hal)
  replace E6 := Aside0.mk (E6.out.below hal)
  replace E7 := Aside0.mk (E7.out.below hal)
  replace E8 := Aside0.mk (E8.out.below hal)
  replace X := Aside0.mk (X.out.alloc (.cells #[.int .i64 c.f0, .int .u64 c.f1, .int .u64 c.f2, .int .u64 c.f3, .int .u64 c.f4, .slice dA5 c.f5.length dc5, .slice dA6 c.f6.length dc6, .slice dA7 c.f7.length dc7, .slice dA8 c.f8.length dc8] 64)); replace hx := fun i => X.out.cell i
  replace T3 := Aside0.mk (T3.out.alloc (.cells #[.int .i64 c.f0, .int .u64 c.f1, .int .u64 c.f2, .int .u64 c.f3, .int .u64 c.f4, .slice dA5 c.f5.length dc5, .slice dA6 c.f6.length dc6, .slice dA7 c.f7.length dc7, .slice dA8 c.f8.length dc8] 64)); replace ht3 := fun i => T3.out.cell i
  have T6 := Aside0.mk (Blk.new W5 #[.int .i64 c.f0, .int .u64 c.f1, .int .u64 c.f2, .int .u64 c.f3, .int .u64 c.f4, .slice dA5 c.f5.length dc5, .slice dA6 c.f6.length dc6, .slice dA7 c.f7.length dc7, .slice dA8 c.f8.length dc8] 64); have ht6 := fun i => T6.out.cell i; clear hal
  replace HV := Aside0.mk (HV.out.below (below_drew (Below.refl _ _)))
  replace C := Aside0.mk (C.out.below (below_drew (Below.refl _ _)))
  replace C5 := Aside0.mk (C5.out.below (below_drew (Below.refl _ _)))
  replace C6 := Aside0.mk (C6.out.below (below_drew (Below.refl _ _)))
  replace C7 := Aside0.mk (C7.out.below (below_drew (Below.refl _ _)))
  replace C8 := Aside0.mk (C8.out.below (below_drew (Below.refl _ _)))
  replace E := Aside0.mk (E.out.below (below_drew (Below.refl _ _)))
  replace E5 := Aside0.mk (E5.out.below (below_drew (Below.refl _ _)))
  replace E6 := Aside0.mk (E6.out.below (below_drew (Below.refl _ _)))
  replace E7 := Aside0.mk (E7.out.below (below_drew (Below.refl _ _)))
  replace E8 := Aside0.mk (E8.out.below (below_drew (Below.refl _ _)))
  replace X := Aside0.mk (X.out.below (below_drew (Below.refl _ _)))
  replace T3 := Aside0.mk (T3.out.below (below_drew (Below.refl _ _)))
  replace T6 := Aside0.mk (T6.out.below (below_drew (Below.refl _ _)))
  replace B := Aside0.mk (below_drew B.out)
  go_region_held3 (fun W => (∀ i, W.cell? ⟨w.heap.size, i, none⟩ = (#[.int .i64 h.f0, .int .u64 h.f1, .int .u64 h.f2, .int .u64 h.f3, .int .u64 h.f4, .slice A5 h.f5.length c5, .slice A6 h.f6.length c6, .slice A7 h.f7.length c7, .slice A8 h.f8.length c8] : Array Value)[i]?) ∧ (∀ i, W.cell? ⟨W2.heap.size, i, none⟩ = (#[.int .i64 c.f0, .int .u64 c.f1, .int .u64 c.f2, .int .u64 c.f3, .int .u64 c.f4, .slice cA5 c.f5.length cc5, .slice cA6 c.f6.length cc6, .slice cA7 c.f7.length cc7, .slice cA8 c.f8.length cc8] : Array Value)[i]?)) (exact ⟨fun i => X.out.cell i, fun i => T3.out.cell i⟩) (first | (go_at_call 71; (with_reducible refine (CRc.out _ _ C.out).mono ?_); rintro e W6 ⟨sa, rfl, hr, hb⟩; replace B := Aside0.mk (below_then B.out B.out.size hb); replace HV := Aside0.mk (HV.out.below hb); replace C := Aside0.mk (C.out.below hb); replace C5 := Aside0.mk (C5.out.below hb); replace C6 := Aside0.mk (C6.out.below hb); replace C7 := Aside0.mk (C7.out.below hb); replace C8 := Aside0.mk (C8.out.below hb); replace E := Aside0.mk (E.out.below hb); replace E5 := Aside0.mk (E5.out.below hb); replace E6 := Aside0.mk (E6.out.below hb); replace E7 := Aside0.mk (E7.out.below hb); replace E8 := Aside0.mk (E8.out.below hb); replace X := Aside0.mk (X.out.below hb); replace hx := fun i => X.out.cell i; replace T3 := Aside0.mk (T3.out.below hb); replace ht3 := fun i => T3.out.cell i; replace T6 := Aside0.mk (T6.out.below hb); replace ht6 := fun i => T6.out.cell i; (try (replace SB := Aside0.mk (SB.out.below hb))); have SA := Aside0.mk hr; clear hr hb) | (go_at_call 71; (with_reducible refine (CR.out _ _ HV.out).mono ?_); rintro e W7 ⟨sb, rfl, hr, hb⟩; replace B := Aside0.mk (below_then B.out B.out.size hb); replace HV := Aside0.mk (HV.out.below hb); replace C := Aside0.mk (C.out.below hb); replace C5 := Aside0.mk (C5.out.below hb); replace C6 := Aside0.mk (C6.out.below hb); replace C7 := Aside0.mk (C7.out.below hb); replace C8 := Aside0.mk (C8.out.below hb); replace E := Aside0.mk (E.out.below hb); replace E5 := Aside0.mk (E5.out.below hb); replace E6 := Aside0.mk (E6.out.below hb); replace E7 := Aside0.mk (E7.out.below hb); replace E8 := Aside0.mk (E8.out.below hb); replace X := Aside0.mk (X.out.below hb); replace hx := fun i => X.out.cell i; replace T3 := Aside0.mk (T3.out.below hb); replace ht3 := fun i => T3.out.cell i; replace T6 := Aside0.mk (T6.out.below hb); replace ht6 := fun i => T6.out.cell i; (try (replace SA := Aside0.mk (SA.out.below hb))); have SB := Aside0.mk hr; clear hr hb) | (go_at_call 81; (with_reducible refine (CE.out _ _ _ SA.out SB.out).mono ?_); rintro e W8 ⟨rfl, hb⟩; replace B := Aside0.mk (below_then B.out B.out.size hb); replace HV := Aside0.mk (HV.out.below hb); replace C := Aside0.mk (C.out.below hb); replace C5 := Aside0.mk (C5.out.below hb); replace C6 := Aside0.mk (C6.out.below hb); replace C7 := Aside0.mk (C7.out.below hb); replace C8 := Aside0.mk (C8.out.below hb); replace E := Aside0.mk (E.out.below hb); replace E5 := Aside0.mk (E5.out.below hb); replace E6 := Aside0.mk (E6.out.below hb); replace E7 := Aside0.mk (E7.out.below hb); replace E8 := Aside0.mk (E8.out.below hb); replace X := Aside0.mk (X.out.below hb); replace hx := fun i => X.out.cell i; replace T3 := Aside0.mk (T3.out.below hb); replace ht3 := fun i => T3.out.cell i; replace T6 := Aside0.mk (T6.out.below hb); replace ht6 := fun i => T6.out.cell i; clear  hb) | (go_at_call 91; (with_reducible refine (CF.out _ _ C.out).mono ?_); rintro e W9 ⟨rfl, hb⟩; replace B := Aside0.mk (below_then B.out B.out.size hb); replace HV := Aside0.mk (HV.out.below hb); replace C := Aside0.mk (C.out.below hb); replace C5 := Aside0.mk (C5.out.below hb); replace C6 := Aside0.mk (C6.out.below hb); replace C7 := Aside0.mk (C7.out.below hb); replace C8 := Aside0.mk (C8.out.below hb); replace E := Aside0.mk (E.out.below hb); replace E5 := Aside0.mk (E5.out.below hb); replace E6 := Aside0.mk (E6.out.below hb); replace E7 := Aside0.mk (E7.out.below hb); replace E8 := Aside0.mk (E8.out.below hb); replace X := Aside0.mk (X.out.below hb); replace hx := fun i => X.out.cell i; replace T3 := Aside0.mk (T3.out.below hb); replace ht3 := fun i => T3.out.cell i; replace T6 := Aside0.mk (T6.out.below hb); replace ht6 := fun i => T6.out.cell i; clear  hb) | (go_at_call 47; (with_reducible refine (N5.out _ _ C5.out).mono ?_); rintro e W10 ⟨rfl, hb⟩; replace B := Aside0.mk (below_then B.out B.out.size hb); replace HV := Aside0.mk (HV.out.below hb); replace C := Aside0.mk (C.out.below hb); replace C5 := Aside0.mk (C5.out.below hb); replace C6 := Aside0.mk (C6.out.below hb); replace C7 := Aside0.mk (C7.out.below hb); replace C8 := Aside0.mk (C8.out.below hb); replace E := Aside0.mk (E.out.below hb); replace E5 := Aside0.mk (E5.out.below hb); replace E6 := Aside0.mk (E6.out.below hb); replace E7 := Aside0.mk (E7.out.below hb); replace E8 := Aside0.mk (E8.out.below hb); replace X := Aside0.mk (X.out.below hb); replace hx := fun i => X.out.cell i; replace T3 := Aside0.mk (T3.out.below hb); replace ht3 := fun i => T3.out.cell i; replace T6 := Aside0.mk (T6.out.below hb); replace ht6 := fun i => T6.out.cell i; clear  hb) | (go_at_call 47; (with_reducible refine (N6.out _ _ C6.out).mono ?_); rintro e W11 ⟨rfl, hb⟩; replace B := Aside0.mk (below_then B.out B.out.size hb); replace HV := Aside0.mk (HV.out.below hb); replace C := Aside0.mk (C.out.below hb); replace C5 := Aside0.mk (C5.out.below hb); replace C6 := Aside0.mk (C6.out.below hb); replace C7 := Aside0.mk (C7.out.below hb); replace C8 := Aside0.mk (C8.out.below hb); replace E := Aside0.mk (E.out.below hb); replace E5 := Aside0.mk (E5.out.below hb); replace E6 := Aside0.mk (E6.out.below hb); replace E7 := Aside0.mk (E7.out.below hb); replace E8 := Aside0.mk (E8.out.below hb); replace X := Aside0.mk (X.out.below hb); replace hx := fun i => X.out.cell i; replace T3 := Aside0.mk (T3.out.below hb); replace ht3 := fun i => T3.out.cell i; replace T6 := Aside0.mk (T6.out.below hb); replace ht6 := fun i => T6.out.cell i; clear  hb))
  all_goals go_wp2_with (first | (go_at_call 89; (with_reducible refine (numbers_c _ _ _ _ _ _ _ _ _ _ _ _ _ _ _ _ _ _ _ _ _ _ _ _ _ _ _ _ _ _).mono ?_); rintro e W12 ⟨rfl, hb⟩; replace B := Aside0.mk (below_then B.out B.out.size hb); replace HV := Aside0.mk (HV.out.below hb); replace C := Aside0.mk (C.out.below hb); replace C5 := Aside0.mk (C5.out.below hb); replace C6 := Aside0.mk (C6.out.below hb); replace C7 := Aside0.mk (C7.out.below hb); replace C8 := Aside0.mk (C8.out.below hb); replace E := Aside0.mk (E.out.below hb); replace E5 := Aside0.mk (E5.out.below hb); replace E6 := Aside0.mk (E6.out.below hb); replace E7 := Aside0.mk (E7.out.below hb); replace E8 := Aside0.mk (E8.out.below hb); replace X := Aside0.mk (X.out.below hb); replace hx := fun i => X.out.cell i; replace T3 := Aside0.mk (T3.out.below hb); replace ht3 := fun i => T3.out.cell i; replace T6 := Aside0.mk (T6.out.below hb); replace ht6 := fun i => T6.out.cell i; clear  hb) | (go_at_call 86; (with_reducible refine (M5.out _ _ _ C5.out E5.out).mono ?_); rintro e W13 ⟨rfl, hb⟩; replace B := Aside0.mk (below_then B.out B.out.size hb); replace HV := Aside0.mk (HV.out.below hb); replace C := Aside0.mk (C.out.below hb); replace C5 := Aside0.mk (C5.out.below hb); replace C6 := Aside0.mk (C6.out.below hb); replace C7 := Aside0.mk (C7.out.below hb); replace C8 := Aside0.mk (C8.out.below hb); replace E := Aside0.mk (E.out.below hb); replace E5 := Aside0.mk (E5.out.below hb); replace E6 := Aside0.mk (E6.out.below hb); replace E7 := Aside0.mk (E7.out.below hb); replace E8 := Aside0.mk (E8.out.below hb); replace X := Aside0.mk (X.out.below hb); replace hx := fun i => X.out.cell i; replace T3 := Aside0.mk (T3.out.below hb); replace ht3 := fun i => T3.out.cell i; replace T6 := Aside0.mk (T6.out.below hb); replace ht6 := fun i => T6.out.cell i; clear  hb) | (go_at_call 86; (with_reducible refine (M6.out _ _ _ C6.out E6.out).mono ?_); rintro e W14 ⟨rfl, hb⟩; replace B := Aside0.mk (below_then B.out B.out.size hb); replace HV := Aside0.mk (HV.out.below hb); replace C := Aside0.mk (C.out.below hb); replace C5 := Aside0.mk (C5.out.below hb); replace C6 := Aside0.mk (C6.out.below hb); replace C7 := Aside0.mk (C7.out.below hb); replace C8 := Aside0.mk (C8.out.below hb); replace E := Aside0.mk (E.out.below hb); replace E5 := Aside0.mk (E5.out.below hb); replace E6 := Aside0.mk (E6.out.below hb); replace E7 := Aside0.mk (E7.out.below hb); replace E8 := Aside0.mk (E8.out.below hb); replace X := Aside0.mk (X.out.below hb); replace hx := fun i => X.out.cell i; replace T3 := Aside0.mk (T3.out.below hb); replace ht3 := fun i => T3.out.cell i; replace T6 := Aside0.mk (T6.out.below hb); replace ht6 := fun i => T6.out.cell i; clear  hb) | (go_at_call 92; (with_reducible refine (M7.out _ _ _ C7.out E7.out).mono ?_); rintro e W15 ⟨rfl, hb⟩; replace B := Aside0.mk (below_then B.out B.out.size hb); replace HV := Aside0.mk (HV.out.below hb); replace C := Aside0.mk (C.out.below hb); replace C5 := Aside0.mk (C5.out.below hb); replace C6 := Aside0.mk (C6.out.below hb); replace C7 := Aside0.mk (C7.out.below hb); replace C8 := Aside0.mk (C8.out.below hb); replace E := Aside0.mk (E.out.below hb); replace E5 := Aside0.mk (E5.out.below hb); replace E6 := Aside0.mk (E6.out.below hb); replace E7 := Aside0.mk (E7.out.below hb); replace E8 := Aside0.mk (E8.out.below hb); replace X := Aside0.mk (X.out.below hb); replace hx := fun i => X.out.cell i; replace T3 := Aside0.mk (T3.out.below hb); replace ht3 := fun i => T3.out.cell i; replace T6 := Aside0.mk (T6.out.below hb); replace ht6 := fun i => T6.out.cell i; clear  hb) | (go_at_call 92; (with_reducible refine (M8.out _ _ _ C8.out E8.out).mono ?_); rintro e W16 ⟨rfl, hb⟩; replace B := Aside0.mk (below_then B.out B.out.size hb); replace HV := Aside0.mk (HV.out.below hb); replace C := Aside0.mk (C.out.below hb); replace C5 := Aside0.mk (C5.out.below hb); replace C6 := Aside0.mk (C6.out.below hb); replace C7 := Aside0.mk (C7.out.below hb); replace C8 := Aside0.mk (C8.out.below hb); replace E := Aside0.mk (E.out.below hb); replace E5 := Aside0.mk (E5.out.below hb); replace E6 := Aside0.mk (E6.out.below hb); replace E7 := Aside0.mk (E7.out.below hb); replace E8 := Aside0.mk (E8.out.below hb); replace X := Aside0.mk (X.out.below hb); replace hx := fun i => X.out.cell i; replace T3 := Aside0.mk (T3.out.below hb); replace ht3 := fun i => T3.out.cell i; replace T6 := Aside0.mk (T6.out.below hb); replace ht6 := fun i => T6.out.cell i; clear  hb) | (go_at_call 70; (with_reducible refine (awake09_c _).mono ?_); rintro e W17 ⟨rfl, hb⟩; replace B := Aside0.mk (below_then B.out B.out.size hb); replace HV := Aside0.mk (HV.out.below hb); replace C := Aside0.mk (C.out.below hb); replace C5 := Aside0.mk (C5.out.below hb); replace C6 := Aside0.mk (C6.out.below hb); replace C7 := Aside0.mk (C7.out.below hb); replace C8 := Aside0.mk (C8.out.below hb); replace E := Aside0.mk (E.out.below hb); replace E5 := Aside0.mk (E5.out.below hb); replace E6 := Aside0.mk (E6.out.below hb); replace E7 := Aside0.mk (E7.out.below hb); replace E8 := Aside0.mk (E8.out.below hb); replace X := Aside0.mk (X.out.below hb); replace hx := fun i => X.out.cell i; replace T3 := Aside0.mk (T3.out.below hb); replace ht3 := fun i => T3.out.cell i; replace T6 := Aside0.mk (T6.out.below hb); replace ht6 := fun i => T6.out.cell i; clear  hb))
  all_goals go_ret
  all_goals exact ⟨rfl, B.out⟩
theorem histCanon_c (h : Hi) (hw : wfI h) (w : World) (u : Value) (hu : HI w u h) : Calls Try.prog 18 #[u] w fun e w' => e = .returned (.bool true) ∧ Below w.heap.size w w' := by
  obtain ⟨b, hb, cs⟩ := small_c h hw.2.2.2.2.2.1 hw.2.2.2.2.2.2.1
  cases b with
  | false =>
    have hud := Try.underlying64
    have CS := Aside0.mk cs
    clear cs hb
    obtain ⟨A5, c5, A6, c6, A7, c7, A8, c8, e, h5, h6, h7, h8⟩ := hu.open_
    subst e
    have B := Aside0.mk (below_alloc (Below.refl w.heap.size w) (.cells #[.int .i64 h.f0, .int .u64 h.f1, .int .u64 h.f2, .int .u64 h.f3, .int .u64 h.f4, .slice A5 h.f5.length c5, .slice A6 h.f6.length c6, .slice A7 h.f7.length c7, .slice A8 h.f8.length c8] 64))
    have X := Aside0.mk (Blk.new w #[.int .i64 h.f0, .int .u64 h.f1, .int .u64 h.f2, .int .u64 h.f3, .int .u64 h.f4, .slice A5 h.f5.length c5, .slice A6 h.f6.length c6, .slice A7 h.f7.length c7, .slice A8 h.f8.length c8] 64)
    have hx := fun i => X.out.cell i
    have HV := Aside0.mk (hu.below B.out)
    have H5 := Aside0.mk (h5.below B.out)
    have H6 := Aside0.mk (h6.below B.out)
    have H7 := Aside0.mk (h7.below B.out)
    have H8 := Aside0.mk (h8.below B.out)
    clear hu h5 h6 h7 h8
    go_enter Try.func18, Try.ntmps18
    go_wp2_with (first | (go_at_call 69; (with_reducible refine (CS.out _ _ HV.out).mono ?_); rintro e W1 ⟨rfl, hb⟩; replace B := Aside0.mk (below_then B.out B.out.size hb); replace HV := Aside0.mk (HV.out.below hb); replace X := Aside0.mk (X.out.below hb); replace hx := fun i => X.out.cell i; clear  hb) | (go_at_call 70; (with_reducible refine (awake09_c _).mono ?_); rintro e W2 ⟨rfl, hb⟩; replace B := Aside0.mk (below_then B.out B.out.size hb); replace HV := Aside0.mk (HV.out.below hb); replace X := Aside0.mk (X.out.below hb); replace hx := fun i => X.out.cell i; clear  hb))
    go_ret
    exact ⟨rfl, B.out⟩
  | true =>
    obtain ⟨n5, n6, n7, n8⟩ := hb rfl
    by_cases hr : checkR h = 0
    · exact histCanon_yes h (wfH_of hw n7 n8) n5 n6 n7 n8 hr cs w u hu
    · exact histCanon_no h (wfH_of hw n7 n8) n5 n6 hr cs w u hu
def tidepolelaw09_HistCanon.f (s0 z0 zc0 ct0 sm0 : Int) (l0_5 l0_6 : List Sp) (l0_7 l0_8 : List Int) : Option Bool := if wfI ⟨s0, z0, zc0, ct0, sm0, l0_5, l0_6, l0_7, l0_8⟩ then some true else none
theorem tidepolelaw09_HistCanon.calls (s0 : Int) (z0 : Int) (zc0 : Int) (ct0 : Int) (sm0 : Int) (A0_5 : Option Addr) (c0_5 : Nat) (l0_5 : List Sp) (A0_6 : Option Addr) (c0_6 : Nat) (l0_6 : List Sp) (A0_7 : Option Addr) (c0_7 : Nat) (l0_7 : List Int) (A0_8 : Option Addr) (c0_8 : Nat) (l0_8 : List Int) (r : Bool) (w : World) (hr0_5 : Kd.C kSp w A0_5 l0_5.length l0_5) (hc0_5 : l0_5.length ≤ c0_5) (hr0_6 : Kd.C kSp w A0_6 l0_6.length l0_6) (hc0_6 : l0_6.length ≤ c0_6) (hr0_7 : Kd.C (Kd.int .i64) w A0_7 l0_7.length l0_7) (hc0_7 : l0_7.length ≤ c0_7) (hr0_8 : Kd.C (Kd.int .i64) w A0_8 l0_8.length l0_8) (hc0_8 : l0_8.length ≤ c0_8) (h : tidepolelaw09_HistCanon.f s0 z0 zc0 ct0 sm0 l0_5 l0_6 l0_7 l0_8 = some r) :
    Calls Try.prog 18 #[.agg #[.int .i64 s0, .int .u64 z0, .int .u64 zc0, .int .u64 ct0, .int .u64 sm0, .slice A0_5 l0_5.length c0_5, .slice A0_6 l0_6.length c0_6, .slice A0_7 l0_7.length c0_7, .slice A0_8 l0_8.length c0_8]] w fun e w' => e = .returned (.bool r) ∧ Below w.heap.size w w' := by
  obtain ⟨q0, rfl⟩ := of_ite_some h
  exact histCanon_c _ q0 w _ (HI.mk (h := ⟨s0, z0, zc0, ct0, sm0, l0_5, l0_6, l0_7, l0_8⟩) (.of hr0_5 hc0_5) (.of hr0_6 hc0_6) (.of hr0_7 hc0_7) (.of hr0_8 hc0_8))
end Go.Proofs.Ytacgeafjilipdaa.P
namespace Go.Proofs.Ytacgeafjilipdaa.P
def headSigns : List Char := List.map Char.ofNat [104, 97, 114, 110, 101, 115, 115, 32, 97, 50, 97, 99, 52, 56, 53, 53, 54, 101, 54, 52, 97, 51, 49, 101, 54, 54, 98, 55, 102, 55, 97, 51, 54, 49, 102, 100, 52, 100, 51, 54, 55, 57, 100, 102, 98, 49, 97, 57, 53, 50, 101, 57, 54, 51, 55, 99, 57, 57, 56, 52, 48, 101, 100, 50, 99, 98, 97, 100, 54, 54, 50, 100, 32, 99, 117, 116, 32, 97, 116, 32, 116, 105, 100, 101, 112, 111, 108, 101, 47, 116, 105, 100, 101, 112, 111, 108, 101, 108, 97, 119, 48, 55, 46, 80, 97, 105, 114, 115, 85, 110, 122, 105, 112, 32, 116, 105, 100, 101, 112, 111, 108, 101, 47, 116, 105, 100, 101, 112, 111, 108, 101, 108, 97, 119, 48, 55, 46, 80, 97, 105, 114, 115, 70, 105, 110, 100, 115, 32, 116, 105, 100, 101, 112, 111, 108, 101, 47, 116, 105, 100, 101, 112, 111, 108, 101, 108, 97, 119, 48, 55, 46, 80, 97, 105, 114, 115, 77, 101, 114, 103, 101, 32, 116, 105, 100, 101, 112, 111, 108, 101, 47, 116, 105, 100, 101, 112, 111, 108, 101, 108, 97, 119, 48, 55, 46, 80, 97, 105, 114, 115, 90, 105, 112, 32, 116, 105, 100, 101, 112, 111, 108, 101, 47, 116, 105, 100, 101, 112, 111, 108, 101, 108, 97, 119, 48, 55, 46, 80, 97, 105, 114, 115, 68, 101, 108, 116, 97, 115, 32, 116, 105, 100, 101, 112, 111, 108, 101, 47, 116, 105, 100, 101, 112, 111, 108, 101, 108, 97, 119, 49, 49, 46, 82, 101, 115, 101, 116, 73, 110, 116, 115, 32, 116, 105, 100, 101, 112, 111, 108, 101, 47, 116, 105, 100, 101, 112, 111, 108, 101, 108, 97, 119, 49, 49, 46, 82, 101, 115, 101, 116, 70, 108, 111, 97, 116, 115, 32, 116, 105, 100, 101, 112, 111, 108, 101, 47, 116, 105, 100, 101, 112, 111, 108, 101, 108, 97, 119, 49, 49, 46, 82, 101, 115, 101, 116, 78, 97, 109, 101, 115, 32, 116, 105, 100, 101, 112, 111, 108, 101, 47, 116, 105, 100, 101, 112, 111, 108, 101, 108, 97, 119, 49, 49, 46, 82, 101, 115, 101, 116, 71, 111, 101, 115, 32, 116, 105, 100, 101, 112, 111, 108, 101, 47, 116, 105, 100, 101, 112, 111, 108, 101, 108, 97, 119, 49, 49, 46, 82, 101, 115, 101, 116, 66, 111, 116, 104, 32, 116, 105, 100, 101, 112, 111, 108, 101, 47, 116, 105, 100, 101, 112, 111, 108, 101, 108, 97, 119, 48, 57, 46, 72, 105, 115, 116, 67, 104, 101, 99, 107, 115, 32, 116, 105, 100, 101, 112, 111, 108, 101, 47, 116, 105, 100, 101, 112, 111, 108, 101, 108, 97, 119, 48, 57, 46, 72, 105, 115, 116, 80, 97, 105, 114, 115, 32, 116, 105, 100, 101, 112, 111, 108, 101, 47, 116, 105, 100, 101, 112, 111, 108, 101, 108, 97, 119, 48, 57, 46, 72, 105, 115, 116, 69, 113, 117, 97, 108, 32, 116, 105, 100, 101, 112, 111, 108, 101, 47, 116, 105, 100, 101, 112, 111, 108, 101, 108, 97, 119, 48, 57, 46, 72, 105, 115, 116, 79, 118, 101, 114, 32, 116, 105, 100, 101, 112, 111, 108, 101, 47, 116, 105, 100, 101, 112, 111, 108, 101, 108, 97, 119, 48, 57, 46, 72, 105, 115, 116, 77, 97, 107, 101, 115, 32, 116, 105, 100, 101, 112, 111, 108, 101, 47, 116, 105, 100, 101, 112, 111, 108, 101, 108, 97, 119, 48, 57, 46, 72, 105, 115, 116, 67, 97, 110, 111, 110, 32, 116, 105, 100, 101, 112, 111, 108, 101, 47, 116, 105, 100, 101, 112, 111, 108, 101, 108, 97, 119, 48, 57, 46, 72, 105, 115, 116, 87, 97, 108, 107, 115, 32, 116, 105, 100, 101, 112, 111, 108, 101, 47, 116, 105, 100, 101, 112, 111, 108, 101, 108, 97, 119, 49, 49, 46, 82, 101, 115, 101, 116, 76, 97, 121, 115, 32, 116, 105, 100, 101, 112, 111, 108, 101, 47, 116, 105, 100, 101, 112, 111, 108, 101, 108, 97, 119, 49, 48, 46, 70, 104, 105, 115, 116, 67, 104, 101, 99, 107, 115, 32, 116, 105, 100, 101, 112, 111, 108, 101, 47, 116, 105, 100, 101, 112, 111, 108, 101, 108, 97, 119, 49, 48, 46, 70, 104, 105, 115, 116, 80, 97, 105, 114, 115, 32, 116, 105, 100, 101, 112, 111, 108, 101, 47, 116, 105, 100, 101, 112, 111, 108, 101, 108, 97, 119, 49, 48, 46, 70, 104, 105, 115, 116, 69, 113, 117, 97, 108, 32, 116, 105, 100, 101, 112, 111, 108, 101, 47, 116, 105, 100, 101, 112, 111, 108, 101, 108, 97, 119, 49, 48, 46, 70, 104, 105, 115, 116, 79, 118, 101, 114, 32, 116, 105, 100, 101, 112, 111, 108, 101, 47, 116, 105, 100, 101, 112, 111, 108, 101, 108, 97, 119, 49, 48, 46, 70, 104, 105, 115, 116, 70, 108, 111, 97, 116, 115, 32, 116, 105, 100, 101, 112, 111, 108, 101, 47, 116, 105, 100, 101, 112, 111, 108, 101, 108, 97, 119, 49, 48, 46, 70, 104, 105, 115, 116, 77, 97, 107, 101, 115, 32, 116, 105, 100, 101, 112, 111, 108, 101, 47, 116, 105, 100, 101, 112, 111, 108, 101, 108, 97, 119, 49, 48, 46, 70, 104, 105, 115, 116, 67, 97, 110, 111, 110, 32, 116, 105, 100, 101, 112, 111, 108, 101, 47, 116, 105, 100, 101, 112, 111, 108, 101, 108, 97, 119, 49, 48, 46, 70, 104, 105, 115, 116, 66, 97, 99, 107, 32, 116, 105, 100, 101, 112, 111, 108, 101, 47, 116, 105, 100, 101, 112, 111, 108, 101, 108, 97, 119, 49, 48, 46, 70, 104, 105, 115, 116, 70, 114, 111, 109]
theorem head_is : Try.prog.initOrder = String.ofList headSigns := by kernel_rfl
theorem head_signs : Try.prog.initOrder.toList = headSigns := by rw [head_is]; exact String.toList_ofList
theorem head_first : (behindMainWord (wordsSigns headSigns)).head? = some "cut".toList := by kernel_rfl
theorem head_words : ∃ r, behindMainWord (wordsSigns headSigns) = "cut".toList :: r := by have h := head_first; cases h2 : behindMainWord (wordsSigns headSigns) with | nil => rw [h2] at h; cases h | cons c r => rw [h2] at h; injection h with h; exact ⟨r, by rw [h]⟩
theorem strip_cut (r : List (List Char)) : stripLifts liftWords ("cut".toList :: r) = ([], "cut".toList :: r) := by kernel_rfl
theorem head_lifts : Try.prog.headLifts = [] := by obtain ⟨r, hr⟩ := head_words; unfold Program.headLifts; rw [head_signs, hr, strip_cut]; kernel_rfl
theorem head_doorFits : Try.prog.doorFits [] = true := by kernel_rfl
theorem head_laysLater : Try.prog.laysLater = false := by kernel_rfl
theorem head_bearsReflect : Try.prog.bearsReflect = false := by kernel_rfl
theorem mayEnter_of {P : Program} {L : List Char} {r : List (List Char)} (h1 : P.initOrder.toList = L) (h2 : behindMainWord (wordsSigns L) = "cut".toList :: r) (h3 : P.doorFits [] = true) (h4 : P.laysLater = false) (h5 : P.bearsReflect = false) : P.mayEnter = true := by unfold Program.mayEnter; rw [h1, h2]; simp only [strip_cut, h3, h4, h5]; kernel_rfl
theorem head_mayEnter : Try.prog.mayEnter = true := by obtain ⟨r, hr⟩ := head_words; exact mayEnter_of head_signs hr head_doorFits head_laysLater head_bearsReflect
theorem head_liftsFinal : Try.prog.liftsFinal = false := by obtain ⟨r, hr⟩ := head_words; unfold Program.liftsFinal; rw [head_signs, head_lifts, hr]; kernel_rfl
theorem make_of {P : Program} {L : List Char} {r : List (List Char)} (h1 : P.initOrder.toList = L) (h2 : behindMainWord (wordsSigns L) = "cut".toList :: r) : P.make = some .cut := by unfold Program.make; rw [h1, h2]; kernel_rfl
theorem head_make : Try.prog.make = some .cut := by obtain ⟨r, hr⟩ := head_words; exact make_of head_signs hr
theorem head_laidOut : laidOutB Try.prog = true := by kernel_rfl
theorem head_mapsRowed : mapsRowed Try.prog = true := by kernel_rfl
theorem head_stops : (Try.prog.stops == []) = true := by kernel_rfl
theorem head_stopKnobs : (Try.prog.stopKnobs == []) = true := by kernel_rfl
theorem head_plainKeys : Try.prog.plainKeys = true := by kernel_rfl
theorem head_stopsHeard : Try.prog.stopsHeard = true := by kernel_rfl
end Go.Proofs.Ytacgeafjilipdaa.P
namespace Go.Proofs.Ytacgeafjilipdaa.Pure
open Go.RowKit Go.Proofs.Ytacgeafjilipdaa.P Go.Proofs.YtacgeafjilipdaaW.PrintWords
theorem HistCanon : ∀ (x0 : S64), wf64 x0 → tidepolelaw09_HistCanon.f x0.f0 x0.f1 x0.f2 x0.f3 x0.f4 x0.f5 x0.f6 x0.f7 x0.f8 = some true := fun _ h0 => if_pos (wfI_of h0)
end Go.Proofs.Ytacgeafjilipdaa.Pure
namespace Go.Proofs.Ytacgeafjilipdaa.histCanon
open Go.ChangeShapes Go.WideShapes Go.ChangeAt Go.RowKit Go.Proofs.Ytacgeafjilipdaa.P Go.Proofs.YtacgeafjilipdaaW.PrintWords
set_option linter.unusedVariables false
theorem own : ownKnob Try.prog.godebug = none := by kernel_rfl
theorem laidOut : laidOutB Try.prog = true := by kernel_rfl
set_option maxRecDepth 100000 in
set_option maxHeartbeats 4000000 in
theorem lifted (os : Os) (started : os.Started) (H : Type) (enc : TypeId × Value → H) :
    ReturnsInHanded {} Try.checked os 18 .any (Rows.histCanonSpec.pre6 enc Try.prog Try.f18 Rows.histCanonRow.domain false) (Rows.histCanonSpec.post enc Try.prog Try.f18 false true false false) := by
  refine returnsInHanded_of_change_sized (C := Try.checked) own started (by kernel_rfl) Try.func18
    (ChangeSpec.witness6 (enc := enc) (C := Try.checked) false ⟨#[], #[.agg #[.int .i64 0, .int .u64 0, .int .u64 0, .int .u64 0, .int .u64 0, .slice none 0 0, .slice none 0 0, .slice none 0 0, .slice none 0 0]], []⟩ 8 (by kernel_rfl) (by kernel_rfl) (by kernel_rfl) (by kernel_rfl)) ?_
  intro W base args ds gs before hval0 hW hcnd hsz0 _
  have hval : ∀ (j : Nat) t v, Try.f18.params[j]? = some t → args[j]? = some v → Value.okWide Try.prog W .any base t v := hval0
  have hW' := hW
  obtain ⟨p, q, hA0, hV, rfl, hfz, hnd⟩ := hW
  have hA : DataW.TrodAll enc Try.prog W 0 (fun _ => true) true Try.f18.params.toList args.toList ds p := hA0
  rw [Try.params18] at hA hval
  obtain ⟨v0, vs0, d0, ds0, p0, q0, hargs, rfl, rfl, h0, r0⟩ := trodAll_cons hA
  obtain ⟨rfl, rfl, rfl⟩ := trodAll_nil r0
  obtain rfl : args = #[v0] := by cases args; simp_all
  obtain ⟨rfl, rfl⟩ := trodVars_none hV
  have k0 := h0
  have lt0 : ∀ x ∈ p0, x.block < W.heap.size := by obtain ⟨m, hm⟩ := k0; exact DataW.trod_lt m _ _ _ hm
  obtain ⟨fu0, hf0⟩ := h0
  obtain ⟨x0, hK0, w0⟩ := opens64 enc W 0 _ true fu0 _ _ hf0
  obtain ⟨cs0, rfl, _⟩ := okWide_struct Try.underlying64 (hval 0 64 v0 rfl rfl)
  obtain ⟨A0_5, c0_5, A0_6, c0_6, A0_7, c0_7, A0_8, c0_8, he0, h0_5_l, hC0_5, h0_6_l, hC0_6, h0_7_l, hC0_7, h0_8_l, hC0_8⟩ := k64_open hK0
  obtain rfl : cs0 = #[.int .i64 x0.f0, .int .u64 x0.f1, .int .u64 x0.f2, .int .u64 x0.f3, .int .u64 x0.f4, .slice A0_5 x0.f5.length c0_5, .slice A0_6 x0.f6.length c0_6, .slice A0_7 x0.f7.length c0_7, .slice A0_8 x0.f8.length c0_8] := by
    have he : cs0.toList = _ := he0
    exact Array.toList_inj.1 he
  clear hA0 hval0 hsz0
  obtain hk := Pure.HistCanon x0 w0
  refine (P.tidepolelaw09_HistCanon.calls x0.f0 x0.f1 x0.f2 x0.f3 x0.f4 A0_5 c0_5 x0.f5 A0_6 c0_6 x0.f6 A0_7 c0_7 x0.f7 A0_8 c0_8 x0.f8 true W hC0_5 h0_5_l hC0_6 h0_6_l hC0_7 h0_7_l hC0_8 h0_8_l hk).mono fun e W' ⟨he, bel⟩ => ?_
  subst he
  exact ⟨_, rfl, _, _, _, [], _, [], hW', trodAll_mk1 (shut_bool Try.underlying4 _), (trodAll_cons_mk (Below.trod laidOut (by kernel_rfl) (of_decide_eq_true (by kernel_rfl)) k0 bel lt0) trodAll_mk0), rfl, bel.frame _, fun h => by cases h⟩
theorem cf0 : (Rows.histCanonRow.wf (OpenSpec.ofChange Rows.histCanonSpec)) = true := by kernel_rfl
theorem cf1 : (laidOutB Try.prog) = true := P.head_laidOut
theorem cf2 : (mapsRowed Try.prog) = true := P.head_mapsRowed
theorem cf3 : (Try.f18.params.all (Try.prog.readableRec ·)) = true := by kernel_rfl
theorem cf4 : (namedTie Try.prog Rows.histCanonRow.named Rows.histCanonSpec.vars) = true := by kernel_rfl
theorem cf5 : ((Rows.histCanonRow.stops == [])) = true := by kernel_rfl
theorem cf6 : ((Try.prog.stops == [])) = true := P.head_stops
theorem cf7 : ((Rows.histCanonRow.knobs == [])) = true := by kernel_rfl
theorem cf8 : ((Try.prog.stopKnobs == [])) = true := P.head_stopKnobs
theorem cf9 : ((Rows.histCanonRow.inPlace == Try.prog.inPlace 18)) = true := by kernel_rfl
theorem cf10 : ((Rows.histCanonRow.unfollowed == Try.prog.unfollowed 18)) = true := by kernel_rfl
theorem cf11 : ((Rows.histCanonRow.recurses == Try.prog.recurses 18)) = true := by kernel_rfl
theorem cf12 : ((Rows.histCanonRow.named == Try.prog.varsNamed 18)) = true := by kernel_rfl
theorem cf13 : ((Rows.histCanonRow.maps == (Try.f18.params.toList ++ Rows.histCanonSpec.plain.varTypes Try.prog).any (Try.prog.mapsRec ·))) = true := by kernel_rfl
theorem cf14 : ((Rows.histCanonRow.ifaces == (Try.f18.params.toList ++ Rows.histCanonSpec.plain.varTypes Try.prog).any (Try.prog.ifacesRec ·))) = true := by kernel_rfl
theorem cf15 : ((Rows.histCanonRow.mapsOut == Try.prog.mapsAmong Try.f18.resultTypes.toList)) = true := by kernel_rfl
theorem cf16 : ((Rows.histCanonRow.loops == (Try.f18.params.toList ++ Rows.histCanonSpec.plain.varTypes Try.prog).any (Try.prog.loopsFrom ·))) = true := by kernel_rfl
theorem cf17 : ((Rows.histCanonRow.wideKeys == (Try.f18.params.toList ++ Rows.histCanonSpec.plain.varTypes Try.prog ++ Try.f18.resultTypes.toList).any (Try.prog.wideKeysFrom ·))) = true := by kernel_rfl
theorem cf18 : (Rows.histCanonSpec.vars.all (Try.prog.varReadable ·)) = true := by kernel_rfl
theorem cf19 : (Try.f18.resultTypes.all (fun t => Try.prog.readableRec t && decide (t < Try.prog.types.size))) = true := by kernel_rfl
theorem cf20 : ((Rows.histCanonRow.ifacesOut == Try.f18.resultTypes.toList.any (Try.prog.ifacesRec ·))) = true := by kernel_rfl
theorem cf21 : ((Rows.histCanonRow.loopsOut == Try.f18.resultTypes.toList.any (Try.prog.loopsFrom ·))) = true := by kernel_rfl
theorem cf22 : ((Rows.histCanonRow.plainKeys == Try.prog.plainKeys)) = true := by rw [P.head_plainKeys]; kernel_rfl
theorem cf23 : (Rows.histCanonRow.shortTexts.isNone) = true := by kernel_rfl
theorem cf24 : (Try.prog.stopsHeard) = true := P.head_stopsHeard
theorem cf25 : (Try.prog.mayEnter) = true := P.head_mayEnter
theorem cf26 : ((Rows.histCanonRow.lifted == Try.prog.liftsFinal)) = true := by rw [P.head_liftsFinal]; kernel_rfl
theorem cf27 : ((Try.prog.make == some Rows.histCanonRow.make)) = true := by rw [P.head_make]; kernel_rfl
theorem cf28 : ((Rows.histCanonRow.kinds == (if Rows.histCanonRow.domain.isEmpty then [] else Try.f18.params.toList.map fun t => match Try.prog.underlying t with | some (.int k) => some k | _ => none))) = true := by kernel_rfl
theorem cf29 : ((Rows.histCanonRow.pinned == Rows.histCanonRow.pinnedBy)) = true := by kernel_rfl
theorem cf30 : ((Rows.histCanonRow.veiled == (Try.f18.params.toList ++ Rows.histCanonSpec.plain.varTypes Try.prog ++ Try.f18.resultTypes.toList).any (Try.prog.veiledRec ·))) = true := by kernel_rfl
theorem cf31 : (Rows.histCanonRow.veiledFits Try.prog Try.f18.params.toList (Try.f18.params.toList ++ Rows.histCanonSpec.plain.varTypes Try.prog ++ Try.f18.resultTypes.toList)) = true := by kernel_rfl
theorem band_mk {a b : Bool} (h : a = true) (k : b = true) : (a && b) = true := by rw [h, k]; rfl
theorem closed : joinedFacts Try.prog 18 Try.f18 Rows.histCanonSpec Rows.histCanonRow = true := by unfold joinedFacts; exact (band_mk (band_mk (band_mk (band_mk (band_mk (band_mk (band_mk (band_mk (band_mk (band_mk (band_mk (band_mk (band_mk (band_mk (band_mk (band_mk (band_mk (band_mk (band_mk (band_mk (band_mk (band_mk (band_mk (band_mk (band_mk (band_mk (band_mk (band_mk (band_mk (band_mk (band_mk cf0 cf1) cf2) cf3) cf4) cf5) cf6) cf7) cf8) cf9) cf10) cf11) cf12) cf13) cf14) cf15) cf16) cf17) cf18) cf19) cf20) cf21) cf22) cf23) cf24) cf25) cf26) cf27) (by kernel_rfl)) cf29) cf30) cf31)
theorem over : Rows.histCanonRow.holds Try.pinned (OpenSpec.ofChange Rows.histCanonSpec) :=
  OpenClaim.holds_of_wide 18 Try.f18 rfl rfl rfl rfl rfl rfl rfl ⟨rfl, rfl, rfl, rfl, rfl⟩ rfl rfl rfl rfl rfl (by kernel_rfl) Try.func18 closed
    (of_decide_eq_true (by kernel_rfl)) (by unfold Func.isWrapper; first | (rw [if_pos (by decide +kernel)]; kernel_rfl) | (rw [if_neg (by decide +kernel)]; exact ⟨rfl, rfl⟩))
    (fun os started H enc _ => lifted os started H enc)
theorem proved : Rows.HistCanonSaid := over
#print axioms proved
end Go.Proofs.Ytacgeafjilipdaa.histCanon
namespace Go.Proofs.Ytacgeafjilipdaa
theorem histCanon_holds : Rows.HistCanonSaid := histCanon.proved
end Go.Proofs.Ytacgeafjilipdaa
