/- HistMakes: the part that this text bears of the proof that the statement answers true for every input. No condition. -/
import Derived.Test.YtacgeafjilipdaaProg
import Derived.Below
import Derived.Deep.Draws
import Derived.Deep.AppendLies
import Derived.Maps.AppendAt
import Derived.OwnWalk
import Derived.Laws.BytesArg
import Derived.Laws.MakeOwn
import Derived.Laws.OwnMore
import Derived.Deep.OwnRows
import Derived.Tactics
import Derived.Lib.ConvBytes
import Derived.Laws.Slices
import Derived.WalkKit
import Derived.KernelRfl
import Derived.RowKit3
import Derived.Deep.LoopGhost
import Derived.Deep.QuietTactic
import Derived.BigQuiet
import Derived.WideLaws
import Derived.Deep.DeepCutAuto
import Derived.Deep.CutBlock
import Derived.Deep.RegionHeld3
import Derived.Laws.Rows
import Derived.Lib.AppendStr
import Derived.ArgAppend
import Derived.Laws.IdiomCopy
import Derived.OrdersHeld
import Derived.Laws.BitsLemmas
import Derived.RowKit
import Derived.Deep.Slices
import Derived.ChangeArms
import Derived.Shelf.Abstract
import Derived.WalkSpells
import Derived.RangeFuncNested
import Derived.RangeFuncBound
import Derived.RangeFuncCalls
import Derived.RangeFuncLeaves
import Derived.RangeFuncBox
import Derived.OwnWalkIn
import Derived.TacticsInMore
import Derived.LoopNIn
import Derived.LoopIn
import Derived.Laws.Externs
import Derived.Shelf.Spec.BitsCarry
import Derived.RegionIn
import Derived.Sort.QuietTacIn
import Derived.Deep.RegionWith
import Derived.Laws.BitsAllLaws
import Derived.ProofKit
import Derived.JoinedOf
import Derived.OpenShut
import Derived.ShutString
import Derived.ChangeOld
import Derived.SizedLaws
import Derived.Test.YtacgeafjilipdaaWWords
import Derived.Test.YtacgeafjilipdaaWLast
import Derived.Test.YtacgeafjilipdaaWTab
import Derived.Test.YtacgeafjilipdaaWQPut
import Derived.Test.YtacgeafjilipdaaWApart
import Derived.Test.YtacgeafjilipdaaWArr
import Derived.Test.YtacgeafjilipdaaWZeros
import Derived.Test.YtacgeafjilipdaaWFoot
import Derived.Test.YtacgeafjilipdaaWKept
import Derived.Test.YtacgeafjilipdaaWShare
import Derived.Test.YtacgeafjilipdaaWN
import Derived.Test.YtacgeafjilipdaaWEqStruct
import Derived.Test.YtacgeafjilipdaaWRepsOne
import Derived.Test.YtacgeafjilipdaaWInv
import Derived.Test.YtacgeafjilipdaaWGuard
import Derived.Test.YtacgeafjilipdaaWNEv
import Derived.Test.YtacgeafjilipdaaWMore
import Derived.Test.YtacgeafjilipdaaRows
import Derived.Test.YtacgeafjilipdaaQHistMakes0
import Derived.Test.YtacgeafjilipdaaQHistMakes1
import Derived.Test.YtacgeafjilipdaaQHistMakes2
namespace Go.Proofs.Ytacgeafjilipdaa.P
open Go.RowKit Go.Shelf Go.Proofs.YtacgeafjilipdaaW.PrintWords Go.Proofs.YtacgeafjilipdaaW.PrintLast Go.Proofs.YtacgeafjilipdaaW.PrintMore
set_option linter.unusedVariables false
set_option linter.unusedSimpArgs false
instance (l : List Pr) : Decidable (wfPrs l) := by unfold wfPrs; exact inferInstance
def apartR (l : List Pr) : List Int × List Int × Int := if rises (-1048576) (l.map (·.f0)) = true then (match diffsFrom 0 (l.map (·.f1)) with | none => ([], [], 28) | some _ => (l.map (·.f0), l.map (·.f1), 0)) else ([], [], 11)
theorem apart_loop (l : List Pr) (hw : wfPrs l) (hm : l.length ≤ 300) : ∀ (d k i : Nat), l.length - i = d → d + 400 < k → i ≤ l.length →
    tidepolelaw09_apart.l0 k ((l.take i).map (·.f0)) ((l.take i).map (·.f1)) l (l.length : Int) (i : Int) = some (apartR l) := by
  intro d
  induction d with
  | zero =>
    intro k i hd hk hi
    obtain ⟨k, rfl⟩ : ∃ m, k = m + 1 := ⟨k - 1, by omega⟩
    rw [tidepolelaw09_apart.l0, if_neg (by omega), List.take_of_length_le (by omega), refRising_eq _ (by simp; omega) k (by simp; omega), Option.bind_some]
    unfold apartR
    by_cases hr : rises (-1048576) (l.map (·.f0)) = true
    · rw [if_pos hr, if_pos hr, refDeltas_eq _ (by intro x hx; obtain ⟨s, hs, rfl⟩ := List.mem_map.1 hx; exact (hw s hs).2) (by simp; omega) k (by simp; omega), Option.bind_some]
      cases diffsFrom 0 (l.map (·.f1)) with
      | none => simp
      | some d => simp
    · rw [if_neg hr, if_neg hr]
  | succ d ih =>
    intro k i hd hk hi
    obtain ⟨k, rfl⟩ : ∃ m, k = m + 1 := ⟨k - 1, by omega⟩
    have hlt : i < l.length := by omega
    have hl1 : ((l.take i).map (·.f0)).length = i := by simp; omega
    have hl2 : ((l.take i).map (·.f1)).length = i := by simp; omega
    rw [tidepolelaw09_apart.l0, if_pos (by omega), if_pos (by omega), if_pos (by omega)]
    simp only [Option.bind_some, List.length_cons, List.length_nil]
    rw [hl1, hl2, rdPr_at hlt, if_pos (by omega), if_pos (by omega), wrap_succ (by omega), ← ih k (i + 1) (by omega) (by omega) (by omega), take_at hlt]
    simp only [List.map_append, List.map_cons, List.map_nil]
theorem apart_c (l : List Pr) (hw : wfPrs l) (hm : l.length ≤ 300) (w : World) (v : Value) (hv : SI kPr w v l) : Calls Try.prog 153 #[v] w fun e w' =>
    ∃ v0 v1 : Value, e = .returned (.tuple #[v0, v1, .int .i64 (apartR l).2.2]) ∧ SI (Kd.int .i64) w' v0 (apartR l).1 ∧ SI (Kd.int .i64) w' v1 (apartR l).2.1 ∧ Below w.heap.size w w' := by
  obtain ⟨A, c, rfl, hc, hr⟩ := hv
  refine (tidepolelaw09_apart.calls 1000 A c l _ _ _ w hr hc (apart_loop l hw hm l.length 1000 0 (by omega) (by omega) (by omega))).mono ?_
  rintro e w1 ⟨v0, v1, rfl, h0, h1, hb⟩
  exact ⟨v0, v1, rfl, .of_R h0, .of_R h1, hb⟩
theorem below_c (l : List Int) (hl : l.length ≤ 4096) (w : World) (v : Value) (hv : SI (Kd.int .i64) w v l) : Calls Try.prog 154 #[v] w fun e w' => e = .returned (.bool (l.any (fun x => decide (x < 0)))) ∧ Below w.heap.size w w' := by
  obtain ⟨A, c, rfl, hc, hr⟩ := hv
  exact (tidepolelaw09_below.calls (l.length + 1) A c l _ w hr hc (below_eq l (by omega) _ (by omega))).mono fun e w1 h => ⟨h.1, h.2.below⟩
theorem apart_lay {l : List Pr} (hl : l.length ≤ 300) : (apartR l).2.2 = (layR l).2.2 := by
  unfold apartR layR
  by_cases hr : rises (-1048576) (l.map (·.f0)) = true
  · rw [if_pos hr, unzip_ok hr (by omega)]
    cases diffsFrom 0 (l.map (·.f1)) <;> simp
  · have hr' : rises (-1048576) (l.map (·.f0)) = false := by simpa using hr
    rw [if_neg hr, if_pos (by rw [unzip_no hr']; omega), unzip_no hr']
def makesR (h : Hi) (p n : List Pr) : Int := if (apartR p).2.2 ≠ 0 then (apartR p).2.2 else if (apartR n).2.2 ≠ 0 then (apartR n).2.2 else if headE h ≠ 0 then headE h else if ((p.map (·.f1)).any (fun x => decide (x < 0)) || (n.map (·.f1)).any (fun x => decide (x < 0))) = true then 22 else if fits h.f2 h.f3 h.f4 p n = true then 0 else 22
theorem madeI_wf {h : Hi} {p n : List Pr} (hw : wfI h) (hp : wfRow p) (hn : wfRow n) : wfH (madeH h p n) :=
  ⟨hw.1, hw.2.1, hw.2.2.1, hw.2.2.2.1, hw.2.2.2.2.1, (layR_wf hp).1, (layR_wf hn).1, (layR_wf hp).2.1, (layR_wf hn).2.1, (layR_wf hp).2.2, (layR_wf hn).2.2⟩
theorem apart_ok {l : List Pr} (h : (apartR l).2.2 = 0) : rises (-1048576) (l.map (·.f0)) = true ∧ (∃ d, diffsFrom 0 (l.map (·.f1)) = some d) ∧ apartR l = (l.map (·.f0), l.map (·.f1), 0) := by
  unfold apartR at *
  by_cases hr : rises (-1048576) (l.map (·.f0)) = true
  · rw [if_pos hr] at h ⊢
    cases hd : diffsFrom 0 (l.map (·.f1)) with
    | none => rw [hd] at h; cases h
    | some d => exact ⟨hr, ⟨d, rfl⟩, rfl⟩
  · rw [if_neg hr] at h; cases h
theorem makesR_make {h : Hi} {p n : List Pr} (hp : wfRow p) (hn : wfRow n) (lp : p.length ≤ 300) (ln : n.length ≤ 300) : (makeR h p n).2 = makesR h p n ∧ (makesR h p n ≠ 0 → (makeR h p n).1 = emptyH) ∧
    (makesR h p n = 0 → checkR (madeH h p n) = 0 ∧ openR (madeH h p n) = (p, n, 0) ∧ canonB true (madeH h p n).f5 = true ∧ canonB true (madeH h p n).f6 = true ∧ spCheck (madeH h p n).f5 = 0 ∧ spCheck (madeH h p n).f6 = 0 ∧ makeR h p n = (madeH h p n, 0)) := by
  unfold makeR makesR
  rw [apart_lay lp, apart_lay ln]
  by_cases c1 : (layR p).2.2 = 0
  rotate_left
  · rw [if_pos c1, if_pos c1]; exact ⟨rfl, fun _ => rfl, fun e => absurd e c1⟩
  simp only [c1, ne_eq, not_true_eq_false, if_false]
  by_cases c2 : (layR n).2.2 = 0
  rotate_left
  · rw [if_pos c2, if_pos c2]; exact ⟨rfl, fun _ => rfl, fun e => absurd e c2⟩
  simp only [c2, ne_eq, not_true_eq_false, if_false]
  obtain ⟨r1, ⟨d1, e1⟩, -⟩ := apart_ok ((apart_lay lp).trans c1)
  obtain ⟨r2, ⟨d2, e2⟩, -⟩ := apart_ok ((apart_lay ln).trans c2)
  have y1 : layR p = (spansOf (p.map (·.f0)), d1, 0) := by unfold layR; rw [unzip_ok r1 (by omega), e1]; simp
  have y2 : layR n = (spansOf (n.map (·.f0)), d2, 0) := by unfold layR; rw [unzip_ok r2 (by omega), e2]; simp
  have hM : madeH h p n = ⟨h.f0, h.f1, h.f2, h.f3, h.f4, spansOf (p.map (·.f0)), spansOf (n.map (·.f0)), d1, d2⟩ := by unfold madeH; rw [y1, y2]
  have s1 := side_laid hp r1 (by omega) e1
  have s2 := side_laid hn r2 (by omega) e2
  have i1 := spInv_take _ r1
  have i2 := spInv_take _ r2
  have j1 := i1.len; have j2 := i2.len
  rw [List.length_map] at j1 j2
  have hC : checkR (madeH h p n) = if headE h ≠ 0 then headE h else if ((p.map (·.f1)).any (fun x => decide (x < 0)) || (n.map (·.f1)).any (fun x => decide (x < 0))) = true then 22 else if fits h.f2 h.f3 h.f4 p n = true then 0 else 22 := by
    rw [checkR_eq, hM]
    simp only [s1, s2]
    rw [show headE (⟨h.f0, h.f1, h.f2, h.f3, h.f4, spansOf (p.map (·.f0)), spansOf (n.map (·.f0)), d1, d2⟩ : Hi) = headE h from rfl]
    by_cases c3 : headE h = 0
    rotate_left
    · rw [if_pos c3, if_pos c3]
    simp only [c3, ne_eq, not_true_eq_false, if_false]
    cases hn1 : (p.map (·.f1)).any (fun x => decide (x < 0)) with
    | true => simp
    | false =>
      cases hn2 : (n.map (·.f1)).any (fun x => decide (x < 0)) with
      | true => simp
      | false => simp
  rw [← hC]
  by_cases c4 : checkR (madeH h p n) = 0
  rotate_left
  · rw [if_pos c4]; exact ⟨rfl, fun _ => rfl, fun e => absurd e c4⟩
  rw [if_neg (by simp [c4])]
  have hO := openR_right c4
  obtain ⟨z1, z2, z3, z4⟩ := checkR_zero c4
  rw [hM] at z2 z3
  simp only [s1, s2] at z2 z3
  have t1 : sideRes (spansOf (p.map (·.f0))) d1 = (p, 0) := by
    rw [s1]
    by_cases hh : (p.map (·.f1)).any (fun x => decide (x < 0)) = true
    · rw [if_pos hh] at z2; cases z2
    · rw [if_neg hh]
  have t2 : sideRes (spansOf (n.map (·.f0))) d2 = (n, 0) := by
    rw [s2]
    by_cases hh : (n.map (·.f1)).any (fun x => decide (x < 0)) = true
    · rw [if_pos hh] at z3; cases z3
    · rw [if_neg hh]
  refine ⟨c4.symm, fun e => absurd c4 e, fun _ => ⟨c4, ?_, ?_, ?_, ?_, ?_, rfl⟩⟩
  · rw [hO, hM]; simp only [t1, t2]
  · rw [hM]; exact i1.can
  · rw [hM]; exact i2.can
  · rw [hM]; exact spansOf_check r1 (by rw [List.length_map]; omega) (by omega)
  · rw [hM]; exact spansOf_check r2 (by rw [List.length_map]; omega) (by omega)
set_option maxHeartbeats 16000000 in
set_option maxRecDepth 100000 in
theorem makes_c (h : Hi) (p n : List Pr) (hw : wfI h) (hp : wfPrs p) (hn : wfPrs n) (lp : p.length ≤ 300) (ln : n.length ≤ 300) (w : World) (u vp vn : Value) (hu : HI w u h) (hvp : SI kPr w vp p) (hvn : SI kPr w vn n) : Calls Try.prog 88 #[u, vp, vn] w fun e w' => e = .returned (.int .i64 (makesR h p n)) ∧ Below w.heap.size w w' := by
  have hud := Try.underlying64
  have ap := apart_c p hp lp
  have an := apart_c n hn ln
  have ch := refHead_c h.f0 h.f1
  rw [show (if h.f0 < -4 ∨ h.f0 > 8 then (21 : Int) else if ¬ h.f1 < 9218868437227405312 then 11 else 0) = headE h from rfl] at ch
  have bp := below_c (p.map (·.f1)) (by simp; omega)
  have bn := below_c (n.map (·.f1)) (by simp; omega)
  have cf : ((p.map (·.f1)).any (fun x => decide (x < 0)) = false) → ((n.map (·.f1)).any (fun x => decide (x < 0)) = false) → _ := fun h1 h2 => refFits_c h.f2 h.f3 h.f4 p n hw.2.2.1 hw.2.2.2.1 hw.2.2.2.2.1
    (fun x hx => by have := (hp x hx).2; have hh := List.any_eq_false.1 h1 x.f1 (List.mem_map_of_mem hx); simp at hh; exact ⟨hh, this.2⟩)
    (fun x hx => by have := (hn x hx).2; have hh := List.any_eq_false.1 h2 x.f1 (List.mem_map_of_mem hx); simp at hh; exact ⟨hh, this.2⟩) (by omega) (by omega)
  have ep : (apartR p).2.2 = 0 → apartR p = (p.map (·.f0), p.map (·.f1), 0) := fun e => (apart_ok e).2.2
  have en : (apartR n).2.2 = 0 → apartR n = (n.map (·.f0), n.map (·.f1), 0) := fun e => (apart_ok e).2.2
  obtain ⟨r, hr⟩ : ∃ r, r = makesR h p n := ⟨_, rfl⟩
  rw [← hr]
  unfold makesR at hr
  have AP' := Aside0.mk ap
  have AN' := Aside0.mk an
  have CH_ := Aside0.mk ch
  clear ap an ch hw hp hn lp ln
  generalize headE h = he at *
  generalize fits h.f2 h.f3 h.f4 p n = ft at *
  generalize hb1 : (p.map (·.f1)).any (fun x => decide (x < 0)) = b1 at *
  generalize hb2 : (n.map (·.f1)).any (fun x => decide (x < 0)) = b2 at *
  obtain ⟨A5, c5, A6, c6, A7, c7, A8, c8, e, h5, h6, h7, h8⟩ := hu.open_
  subst e
  have B := Aside0.mk (below_alloc (Below.refl w.heap.size w) (.cells #[.int .i64 h.f0, .int .u64 h.f1, .int .u64 h.f2, .int .u64 h.f3, .int .u64 h.f4, .slice A5 h.f5.length c5, .slice A6 h.f6.length c6, .slice A7 h.f7.length c7, .slice A8 h.f8.length c8] 64))
  have X := Aside0.mk (Blk.new w #[.int .i64 h.f0, .int .u64 h.f1, .int .u64 h.f2, .int .u64 h.f3, .int .u64 h.f4, .slice A5 h.f5.length c5, .slice A6 h.f6.length c6, .slice A7 h.f7.length c7, .slice A8 h.f8.length c8] 64)
  have hx := fun i => X.out.cell i
  have HV := Aside0.mk (hu.below B.out)
  have VP := Aside0.mk (hvp.below B.out)
  have VN := Aside0.mk (hvn.below B.out)
  clear hu h5 h6 h7 h8 hvp hvn
  by_cases c1 : (apartR p).2.2 = 0
  rotate_left
  · rw [if_pos c1] at hr
    have d : ((apartR p).2.2 != 0) = true := bne_iff_ne.2 c1
    generalize apartR p = q at *
    obtain ⟨q0, q1, q2⟩ := q
    simp only at hr d AP'
    subst hr
    have AP_ := AP'
    clear c1 hb1 hb2 bp bn cf ep en
    go_enter Try.func88, Try.ntmps88
    go_wp2_with (first | (go_at_call 153; (with_reducible refine (AP_.out _ _ VP.out).mono ?_); rintro e W1 ⟨v0, v1, rfl, h0, h1, hb⟩; replace B := Aside0.mk (below_then B.out B.out.size hb); replace VP := Aside0.mk (VP.out.below hb); replace VN := Aside0.mk (VN.out.below hb); replace X := Aside0.mk (X.out.below hb); replace hx := fun i => X.out.cell i; have P1 := Aside0.mk h1; clear h0 h1 hb))
    go_ret
    exact ⟨rfl, B.out⟩
  rw [if_neg (by simp [c1])] at hr
  rw [ep c1] at AP'
  have AP_ := AP'
  clear c1 ep AP'
  by_cases c2 : (apartR n).2.2 = 0
  rotate_left
  · rw [if_pos c2] at hr
    have d : ((apartR n).2.2 != 0) = true := bne_iff_ne.2 c2
    generalize apartR n = q at *
    obtain ⟨q0, q1, q2⟩ := q
    simp only at hr d AN' AP_
    subst hr
    have AN_ := AN'
    clear c2 hb1 hb2 bp bn cf en
    go_enter Try.func88, Try.ntmps88
    go_wp2_with (first | (go_at_call 153; (with_reducible refine (AP_.out _ _ VP.out).mono ?_); rintro e W1 ⟨v0, v1, rfl, h0, h1, hb⟩; replace B := Aside0.mk (below_then B.out B.out.size hb); replace VP := Aside0.mk (VP.out.below hb); replace VN := Aside0.mk (VN.out.below hb); replace X := Aside0.mk (X.out.below hb); replace hx := fun i => X.out.cell i; have P1 := Aside0.mk h1; clear h0 h1 hb) | (go_at_call 153; (with_reducible refine (AN_.out _ _ VN.out).mono ?_); rintro e W2 ⟨v2, v3, rfl, h0, h1, hb⟩; replace B := Aside0.mk (below_then B.out B.out.size hb); replace VP := Aside0.mk (VP.out.below hb); replace VN := Aside0.mk (VN.out.below hb); replace P1 := Aside0.mk (P1.out.below hb); replace X := Aside0.mk (X.out.below hb); replace hx := fun i => X.out.cell i; have P2 := Aside0.mk h1; clear h0 h1 hb))
    go_ret
    exact ⟨rfl, B.out⟩
  rw [if_neg (by simp [c2])] at hr
  rw [en c2] at AN'
  have AN_ := AN'
  clear c2 en AN'
  simp only at AP_ AN_
  by_cases c3 : he = 0
  rotate_left
  · rw [if_pos c3] at hr
    subst hr
    have d : (r != 0) = true := bne_iff_ne.2 c3
    clear c3 hb1 hb2 bp bn cf
    go_enter Try.func88, Try.ntmps88
    go_wp2_with (first | (go_at_call 153; (with_reducible refine (AP_.out _ _ VP.out).mono ?_); rintro e W1 ⟨v0, v1, rfl, h0, h1, hb⟩; replace B := Aside0.mk (below_then B.out B.out.size hb); replace VP := Aside0.mk (VP.out.below hb); replace VN := Aside0.mk (VN.out.below hb); replace X := Aside0.mk (X.out.below hb); replace hx := fun i => X.out.cell i; have P1 := Aside0.mk h1; clear h0 h1 hb) | (go_at_call 153; (with_reducible refine (AN_.out _ _ VN.out).mono ?_); rintro e W2 ⟨v2, v3, rfl, h0, h1, hb⟩; replace B := Aside0.mk (below_then B.out B.out.size hb); replace VP := Aside0.mk (VP.out.below hb); replace VN := Aside0.mk (VN.out.below hb); replace P1 := Aside0.mk (P1.out.below hb); replace X := Aside0.mk (X.out.below hb); replace hx := fun i => X.out.cell i; have P2 := Aside0.mk h1; clear h0 h1 hb) | (go_at_call 75; (with_reducible refine (CH_.out _).mono ?_); rintro e W3 ⟨rfl, hb⟩; replace B := Aside0.mk (below_then B.out B.out.size hb); replace VP := Aside0.mk (VP.out.below hb); replace VN := Aside0.mk (VN.out.below hb); replace P1 := Aside0.mk (P1.out.below hb); replace P2 := Aside0.mk (P2.out.below hb); replace X := Aside0.mk (X.out.below hb); replace hx := fun i => X.out.cell i; clear  hb))
    go_ret
    exact ⟨rfl, B.out⟩
  subst c3
  rw [if_neg (by simp)] at hr
  have BP_ := Aside0.mk bp
  have BN_ := Aside0.mk bn
  clear bp bn
  cases b1 with
  | true =>
    simp only [Bool.true_or, if_true] at hr
    subst hr
    clear hb1 hb2 cf
    go_enter Try.func88, Try.ntmps88
    go_wp2_with (first | (go_at_call 153; (with_reducible refine (AP_.out _ _ VP.out).mono ?_); rintro e W1 ⟨v0, v1, rfl, h0, h1, hb⟩; replace B := Aside0.mk (below_then B.out B.out.size hb); replace VP := Aside0.mk (VP.out.below hb); replace VN := Aside0.mk (VN.out.below hb); replace X := Aside0.mk (X.out.below hb); replace hx := fun i => X.out.cell i; have P1 := Aside0.mk h1; clear h0 h1 hb) | (go_at_call 153; (with_reducible refine (AN_.out _ _ VN.out).mono ?_); rintro e W2 ⟨v2, v3, rfl, h0, h1, hb⟩; replace B := Aside0.mk (below_then B.out B.out.size hb); replace VP := Aside0.mk (VP.out.below hb); replace VN := Aside0.mk (VN.out.below hb); replace P1 := Aside0.mk (P1.out.below hb); replace X := Aside0.mk (X.out.below hb); replace hx := fun i => X.out.cell i; have P2 := Aside0.mk h1; clear h0 h1 hb) | (go_at_call 75; (with_reducible refine (CH_.out _).mono ?_); rintro e W3 ⟨rfl, hb⟩; replace B := Aside0.mk (below_then B.out B.out.size hb); replace VP := Aside0.mk (VP.out.below hb); replace VN := Aside0.mk (VN.out.below hb); replace P1 := Aside0.mk (P1.out.below hb); replace P2 := Aside0.mk (P2.out.below hb); replace X := Aside0.mk (X.out.below hb); replace hx := fun i => X.out.cell i; clear  hb) | (go_at_call 154; (with_reducible refine (BP_.out _ _ P1.out).mono ?_); rintro e W4 ⟨rfl, hb⟩; replace B := Aside0.mk (below_then B.out B.out.size hb); replace VP := Aside0.mk (VP.out.below hb); replace VN := Aside0.mk (VN.out.below hb); replace P1 := Aside0.mk (P1.out.below hb); replace P2 := Aside0.mk (P2.out.below hb); replace X := Aside0.mk (X.out.below hb); replace hx := fun i => X.out.cell i; clear  hb))
    go_ret
    exact ⟨rfl, B.out⟩
  | false =>
    cases b2 with
    | true =>
      simp only [Bool.false_or, if_true] at hr
      subst hr
      clear hb1 hb2 cf
      go_enter Try.func88, Try.ntmps88
      go_wp2_with (first | (go_at_call 153; (with_reducible refine (AP_.out _ _ VP.out).mono ?_); rintro e W1 ⟨v0, v1, rfl, h0, h1, hb⟩; replace B := Aside0.mk (below_then B.out B.out.size hb); replace VP := Aside0.mk (VP.out.below hb); replace VN := Aside0.mk (VN.out.below hb); replace X := Aside0.mk (X.out.below hb); replace hx := fun i => X.out.cell i; have P1 := Aside0.mk h1; clear h0 h1 hb) | (go_at_call 153; (with_reducible refine (AN_.out _ _ VN.out).mono ?_); rintro e W2 ⟨v2, v3, rfl, h0, h1, hb⟩; replace B := Aside0.mk (below_then B.out B.out.size hb); replace VP := Aside0.mk (VP.out.below hb); replace VN := Aside0.mk (VN.out.below hb); replace P1 := Aside0.mk (P1.out.below hb); replace X := Aside0.mk (X.out.below hb); replace hx := fun i => X.out.cell i; have P2 := Aside0.mk h1; clear h0 h1 hb) | (go_at_call 75; (with_reducible refine (CH_.out _).mono ?_); rintro e W3 ⟨rfl, hb⟩; replace B := Aside0.mk (below_then B.out B.out.size hb); replace VP := Aside0.mk (VP.out.below hb); replace VN := Aside0.mk (VN.out.below hb); replace P1 := Aside0.mk (P1.out.below hb); replace P2 := Aside0.mk (P2.out.below hb); replace X := Aside0.mk (X.out.below hb); replace hx := fun i => X.out.cell i; clear  hb) | (go_at_call 154; (with_reducible refine (BP_.out _ _ P1.out).mono ?_); rintro e W4 ⟨rfl, hb⟩; replace B := Aside0.mk (below_then B.out B.out.size hb); replace VP := Aside0.mk (VP.out.below hb); replace VN := Aside0.mk (VN.out.below hb); replace P1 := Aside0.mk (P1.out.below hb); replace P2 := Aside0.mk (P2.out.below hb); replace X := Aside0.mk (X.out.below hb); replace hx := fun i => X.out.cell i; clear  hb) | (go_at_call 154; (with_reducible refine (BN_.out _ _ P2.out).mono ?_); rintro e W5 ⟨rfl, hb⟩; replace B := Aside0.mk (below_then B.out B.out.size hb); replace VP := Aside0.mk (VP.out.below hb); replace VN := Aside0.mk (VN.out.below hb); replace P1 := Aside0.mk (P1.out.below hb); replace P2 := Aside0.mk (P2.out.below hb); replace X := Aside0.mk (X.out.below hb); replace hx := fun i => X.out.cell i; clear  hb))
      go_ret
      exact ⟨rfl, B.out⟩
    | false =>
      simp only [Bool.false_or, Bool.false_eq_true, if_false] at hr
      have cf' := cf rfl rfl
      rw [← hr] at cf'
      have CF_ := Aside0.mk cf'
      clear hb1 hb2 cf cf' hr
      go_enter Try.func88, Try.ntmps88
      go_wp2_with (first | (go_at_call 153; (with_reducible refine (AP_.out _ _ VP.out).mono ?_); rintro e W1 ⟨v0, v1, rfl, h0, h1, hb⟩; replace B := Aside0.mk (below_then B.out B.out.size hb); replace VP := Aside0.mk (VP.out.below hb); replace VN := Aside0.mk (VN.out.below hb); replace X := Aside0.mk (X.out.below hb); replace hx := fun i => X.out.cell i; have P1 := Aside0.mk h1; clear h0 h1 hb) | (go_at_call 153; (with_reducible refine (AN_.out _ _ VN.out).mono ?_); rintro e W2 ⟨v2, v3, rfl, h0, h1, hb⟩; replace B := Aside0.mk (below_then B.out B.out.size hb); replace VP := Aside0.mk (VP.out.below hb); replace VN := Aside0.mk (VN.out.below hb); replace P1 := Aside0.mk (P1.out.below hb); replace X := Aside0.mk (X.out.below hb); replace hx := fun i => X.out.cell i; have P2 := Aside0.mk h1; clear h0 h1 hb) | (go_at_call 75; (with_reducible refine (CH_.out _).mono ?_); rintro e W3 ⟨rfl, hb⟩; replace B := Aside0.mk (below_then B.out B.out.size hb); replace VP := Aside0.mk (VP.out.below hb); replace VN := Aside0.mk (VN.out.below hb); replace P1 := Aside0.mk (P1.out.below hb); replace P2 := Aside0.mk (P2.out.below hb); replace X := Aside0.mk (X.out.below hb); replace hx := fun i => X.out.cell i; clear  hb) | (go_at_call 154; (with_reducible refine (BP_.out _ _ P1.out).mono ?_); rintro e W4 ⟨rfl, hb⟩; replace B := Aside0.mk (below_then B.out B.out.size hb); replace VP := Aside0.mk (VP.out.below hb); replace VN := Aside0.mk (VN.out.below hb); replace P1 := Aside0.mk (P1.out.below hb); replace P2 := Aside0.mk (P2.out.below hb); replace X := Aside0.mk (X.out.below hb); replace hx := fun i => X.out.cell i; clear  hb) | (go_at_call 154; (with_reducible refine (BN_.out _ _ P2.out).mono ?_); rintro e W5 ⟨rfl, hb⟩; replace B := Aside0.mk (below_then B.out B.out.size hb); replace VP := Aside0.mk (VP.out.below hb); replace VN := Aside0.mk (VN.out.below hb); replace P1 := Aside0.mk (P1.out.below hb); replace P2 := Aside0.mk (P2.out.below hb); replace X := Aside0.mk (X.out.below hb); replace hx := fun i => X.out.cell i; clear  hb) | (go_at_call 138; (with_reducible refine (CF_.out _ _ _ P1.out P2.out).mono ?_); rintro e W6 ⟨rfl, hb⟩; replace B := Aside0.mk (below_then B.out B.out.size hb); replace VP := Aside0.mk (VP.out.below hb); replace VN := Aside0.mk (VN.out.below hb); replace P1 := Aside0.mk (P1.out.below hb); replace P2 := Aside0.mk (P2.out.below hb); replace X := Aside0.mk (X.out.below hb); replace hx := fun i => X.out.cell i; clear  hb))
      go_ret
      exact ⟨rfl, B.out⟩
set_option maxHeartbeats 32000000 in
set_option maxRecDepth 100000 in
theorem histMakes_no (h : Hi) (p n : List Pr) (hw : wfI h) (hp : wfPrs p) (hn : wfPrs n) (lp : p.length ≤ 300) (ln : n.length ≤ 300) (hr : makesR h p n ≠ 0) (w : World) (u : Value) (ap an : Option Addr) (cp cn : Nat) (hu : HI w u h) (hvp : SI kPr w (.slice ap p.length cp) p) (hvn : SI kPr w (.slice an n.length cn) n) : Calls Try.prog 17 #[u, .slice ap p.length cp, .slice an n.length cn] w fun e w' => e = .returned (.bool true) ∧ Below w.heap.size w w' := by
  have hud := Try.underlying64
  have mk := makesR_make (h := h) (p := p) (n := n) ⟨hp, by omega⟩ ⟨hn, by omega⟩ lp ln
  have cm := make_n h p n (madeI_wf hw ⟨hp, by omega⟩ ⟨hn, by omega⟩) ⟨hp, by omega⟩ ⟨hn, by omega⟩
  rw [mk.1, mk.2.1 hr] at cm
  have ck := makes_c h p n hw hp hn lp ln
  have g1 : decide ((p.length : Int) > 300) = false := decide_eq_false (by omega)
  have g2 : decide ((n.length : Int) > 300) = false := decide_eq_false (by omega)
  have g3 : ¬ (300 : Int) < (p.length : Int) := by omega
  have g4 : ¬ (300 : Int) < (n.length : Int) := by omega
  generalize makesR h p n = r at *
  have d : (r != 0) = true := bne_iff_ne.2 hr
  have CM := Aside0.mk cm
  have CK := Aside0.mk ck
  clear cm ck mk hr hw hp hn lp ln
  obtain ⟨A5, c5, A6, c6, A7, c7, A8, c8, e, h5, h6, h7, h8⟩ := hu.open_
  subst e
  have B := Aside0.mk (below_alloc (Below.refl w.heap.size w) (.cells #[.int .i64 h.f0, .int .u64 h.f1, .int .u64 h.f2, .int .u64 h.f3, .int .u64 h.f4, .slice A5 h.f5.length c5, .slice A6 h.f6.length c6, .slice A7 h.f7.length c7, .slice A8 h.f8.length c8] 64))
  have X := Aside0.mk (Blk.new w #[.int .i64 h.f0, .int .u64 h.f1, .int .u64 h.f2, .int .u64 h.f3, .int .u64 h.f4, .slice A5 h.f5.length c5, .slice A6 h.f6.length c6, .slice A7 h.f7.length c7, .slice A8 h.f8.length c8] 64)
  have hx := fun i => X.out.cell i
  have HV := Aside0.mk (hu.below B.out)
  have VP := Aside0.mk (hvp.below B.out)
  have VN := Aside0.mk (hvn.below B.out)
  clear hu h5 h6 h7 h8 hvp hvn
  go_enter Try.func17, Try.ntmps17
  go_wp2_with (first | (go_at_call 87; (with_reducible refine (CM.out _ _ _ _ HV.out VP.out VN.out).mono ?_); rintro e W1 ⟨mv, rfl, hm, hb⟩; replace B := Aside0.mk (below_then B.out B.out.size hb); replace HV := Aside0.mk (HV.out.below hb); replace VP := Aside0.mk (VP.out.below hb); replace VN := Aside0.mk (VN.out.below hb); replace X := Aside0.mk (X.out.below hb); replace hx := fun i => X.out.cell i; obtain ⟨mA5, mc5, mA6, mc6, mA7, mc7, mA8, mc8, ec⟩ := hm.empty_; clear hm; subst ec; have hxa := fun i => (X.out.alloc (.cells #[.int .i64 0, .int .u64 0, .int .u64 0, .int .u64 0, .int .u64 0, .slice mA5 0 mc5, .slice mA6 0 mc6, .slice mA7 0 mc7, .slice mA8 0 mc8] 64)).cell i; clear hb))
  (try clear hxa)
  have hal := below_alloc (Below.refl W1.heap.size W1) (.cells #[.int .i64 0, .int .u64 0, .int .u64 0, .int .u64 0, .int .u64 0, .slice mA5 0 mc5, .slice mA6 0 mc6, .slice mA7 0 mc7, .slice mA8 0 mc8] 64)
  replace B := Aside0.mk (below_then B.out B.out.size hal)
  replace HV := Aside0.mk (HV.out.below hal)
  replace VP := Aside0.mk (VP.out.below hal)
  replace VN := Aside0.mk (VN.out.below hal)
  replace X := Aside0.mk (X.out.alloc (.cells #[.int .i64 0, .int .u64 0, .int .u64 0, .int .u64 0, .int .u64 0, .slice mA5 0 mc5, .slice mA6 0 mc6, .slice mA7 0 mc7, .slice mA8 0 mc8] 64)); replace hx := fun i => X.out.cell i
  have T7 := Aside0.mk (Blk.new W1 #[.int .i64 0, .int .u64 0, .int .u64 0, .int .u64 0, .int .u64 0, .slice mA5 0 mc5, .slice mA6 0 mc6, .slice mA7 0 mc7, .slice mA8 0 mc8] 64); have ht7 := fun i => T7.out.cell i; clear hal
  go_wp2_with (first | (go_at_call 88; (with_reducible refine (CK.out _ _ _ _ HV.out VP.out VN.out).mono ?_); rintro e W2 ⟨rfl, hb⟩; replace B := Aside0.mk (below_then B.out B.out.size hb); replace HV := Aside0.mk (HV.out.below hb); replace VP := Aside0.mk (VP.out.below hb); replace VN := Aside0.mk (VN.out.below hb); replace X := Aside0.mk (X.out.below hb); replace hx := fun i => X.out.cell i; replace T7 := Aside0.mk (T7.out.below hb); replace ht7 := fun i => T7.out.cell i; clear  hb) | (go_at_call 85; (with_reducible refine (empty_x _ _ _ _ _ _ _ _ _).mono ?_); rintro e W3 ⟨rfl, hb⟩; replace B := Aside0.mk (below_then B.out B.out.size hb); replace HV := Aside0.mk (HV.out.below hb); replace VP := Aside0.mk (VP.out.below hb); replace VN := Aside0.mk (VN.out.below hb); replace X := Aside0.mk (X.out.below hb); replace hx := fun i => X.out.cell i; replace T7 := Aside0.mk (T7.out.below hb); replace ht7 := fun i => T7.out.cell i; clear  hb) | (go_at_call 70; (with_reducible refine (awake09_c _).mono ?_); rintro e W4 ⟨rfl, hb⟩; replace B := Aside0.mk (below_then B.out B.out.size hb); replace HV := Aside0.mk (HV.out.below hb); replace VP := Aside0.mk (VP.out.below hb); replace VN := Aside0.mk (VN.out.below hb); replace X := Aside0.mk (X.out.below hb); replace hx := fun i => X.out.cell i; replace T7 := Aside0.mk (T7.out.below hb); replace ht7 := fun i => T7.out.cell i; clear  hb))
  go_ret
  exact ⟨rfl, B.out⟩
set_option maxHeartbeats 64000000 in
set_option maxRecDepth 100000 in
theorem histMakes_yes (h : Hi) (p n : List Pr) (hw : wfI h) (hp : wfPrs p) (hn : wfPrs n) (lp : p.length ≤ 300) (ln : n.length ≤ 300) (hr : makesR h p n = 0) (w : World) (u : Value) (ap an : Option Addr) (cp cn : Nat) (hu : HI w u h) (hvp : SI kPr w (.slice ap p.length cp) p) (hvn : SI kPr w (.slice an n.length cn) n) : Calls Try.prog 17 #[u, .slice ap p.length cp, .slice an n.length cn] w fun e w' => e = .returned (.bool true) ∧ Below w.heap.size w w' := by
  have hud := Try.underlying64
  obtain ⟨q1, q2, q3, q4, q5, q6, q7⟩ := (makesR_make (h := h) (p := p) (n := n) ⟨hp, by omega⟩ ⟨hn, by omega⟩ lp ln).2.2 hr
  have cm0 := make_n h p n (madeI_wf hw ⟨hp, by omega⟩ ⟨hn, by omega⟩) ⟨hp, by omega⟩ ⟨hn, by omega⟩
  rw [q7] at cm0
  have hWm := madeI_wf (p := p) (n := n) hw ⟨hp, by omega⟩ ⟨hn, by omega⟩
  have cm : ∀ (w : World) (v vp vn : Value), HI w v h → SI kPr w vp p → SI kPr w vn n → Calls Try.prog 87 #[v, vp, vn] w fun e w' => ∃ v', e = .returned (.tuple #[v', .int .i64 0]) ∧ HI w' v' (madeH h p n) ∧ Below w.heap.size w w' := fun w v vp vn h1 h2 h3 => (cm0 w v vp vn h1 h2 h3).mono fun e w1 ⟨v', e1, e2, e3⟩ => ⟨v', e1, e2.now, e3⟩
  have ck := makes_c h p n hw hp hn lp ln
  rw [hr] at ck
  have cq := check_c (madeH h p n) hWm
  rw [q1] at cq
  have r0 := pairs_c (madeH h p n) hWm 0
  have r1 := pairs_c (madeH h p n) hWm 1
  rw [show pairsR (madeH h p n) 0 = (p, 0) by unfold pairsR; rw [if_pos rfl, q2]] at r0
  rw [show pairsR (madeH h p n) 1 = (n, 0) by unfold pairsR; rw [if_neg (by omega), if_pos rfl, q2]] at r1
  have ep := equalPr_c p p (by omega)
  have en := equalPr_c n n (by omega)
  rw [decide_eq_true rfl] at ep en
  have N5 := Aside0.mk (canonical_c (madeH h p n).f5 hWm.2.2.2.2.2.1 q3 q5)
  have N6 := Aside0.mk (canonical_c (madeH h p n).f6 hWm.2.2.2.2.2.2.1 q4 q6)
  have g1 : decide ((p.length : Int) > 300) = false := decide_eq_false (by omega)
  have g2 : decide ((n.length : Int) > 300) = false := decide_eq_false (by omega)
  have g3 : ¬ (300 : Int) < (p.length : Int) := by omega
  have g4 : ¬ (300 : Int) < (n.length : Int) := by omega
  have hsn : sameNums (madeH h p n) h := ⟨rfl, rfl, rfl, rfl, rfl⟩
  generalize madeH h p n = m at *
  have CM := Aside0.mk cm
  have CK := Aside0.mk ck
  have CQ := Aside0.mk cq
  have R0 := Aside0.mk r0
  have R1 := Aside0.mk r1
  have EP := Aside0.mk ep
  have EN := Aside0.mk en
  obtain ⟨m0, m1, m2, m3, m4, m5, m6, m7, m8⟩ := m
  obtain ⟨e0, e1, e2, e3, e4⟩ := hsn
  simp only at e0 e1 e2 e3 e4
  subst e0; subst e1; subst e2; subst e3; subst e4
  clear cm cm0 ck cq r0 r1 ep en q1 q2 q3 q4 q5 q6 q7 hr hw hp hn lp ln hWm
  obtain ⟨A5, c5, A6, c6, A7, c7, A8, c8, e, h5, h6, h7, h8⟩ := hu.open_
  subst e
  have B := Aside0.mk (below_alloc (Below.refl w.heap.size w) (.cells #[.int .i64 h.f0, .int .u64 h.f1, .int .u64 h.f2, .int .u64 h.f3, .int .u64 h.f4, .slice A5 h.f5.length c5, .slice A6 h.f6.length c6, .slice A7 h.f7.length c7, .slice A8 h.f8.length c8] 64))
  have X := Aside0.mk (Blk.new w #[.int .i64 h.f0, .int .u64 h.f1, .int .u64 h.f2, .int .u64 h.f3, .int .u64 h.f4, .slice A5 h.f5.length c5, .slice A6 h.f6.length c6, .slice A7 h.f7.length c7, .slice A8 h.f8.length c8] 64)
  have hx := fun i => X.out.cell i
  have HV := Aside0.mk (hu.below B.out)
  have VP := Aside0.mk (hvp.below B.out)
  have VN := Aside0.mk (hvn.below B.out)
  clear hu h5 h6 h7 h8 hvp hvn
  go_enter Try.func17, Try.ntmps17
  go_wp2_with (first | (go_at_call 87; (with_reducible refine (CM.out _ _ _ _ HV.out VP.out VN.out).mono ?_); rintro e W1 ⟨mv, rfl, hm, hb⟩; replace B := Aside0.mk (below_then B.out B.out.size hb); replace HV := Aside0.mk (HV.out.below hb); replace VP := Aside0.mk (VP.out.below hb); replace VN := Aside0.mk (VN.out.below hb); replace X := Aside0.mk (X.out.below hb); replace hx := fun i => X.out.cell i; have M := Aside0.mk hm; have hm' := M.out; obtain ⟨mA5, mc5, mA6, mc6, mA7, mc7, mA8, mc8, ec, h5, h6, h7, h8⟩ := hm'.open_; dsimp only at ec h5 h6 h7 h8; subst ec; have C5 := Aside0.mk h5; have C6 := Aside0.mk h6; clear h5 h6 h7 h8; have hxa := fun i => (X.out.alloc (.cells #[.int .i64 h.f0, .int .u64 h.f1, .int .u64 h.f2, .int .u64 h.f3, .int .u64 h.f4, .slice mA5 m5.length mc5, .slice mA6 m6.length mc6, .slice mA7 m7.length mc7, .slice mA8 m8.length mc8] 64)).cell i; clear hm hb))
  (try clear hxa)
  have hal := below_alloc (Below.refl W1.heap.size W1) (.cells #[.int .i64 h.f0, .int .u64 h.f1, .int .u64 h.f2, .int .u64 h.f3, .int .u64 h.f4, .slice mA5 m5.length mc5, .slice mA6 m6.length mc6, .slice mA7 m7.length mc7, .slice mA8 m8.length mc8] 64)
  replace B := Aside0.mk (below_then B.out B.out.size hal)
  replace HV := Aside0.mk (HV.out.below hal)
  replace VP := Aside0.mk (VP.out.below hal)
  replace VN := Aside0.mk (VN.out.below hal)
  replace M := Aside0.mk (M.out.below hal)
  replace C5 := Aside0.mk (C5.out.below hal)
  replace C6 := Aside0.mk (C6.out.below hal)
  replace X := Aside0.mk (X.out.alloc (.cells #[.int .i64 h.f0, .int .u64 h.f1, .int .u64 h.f2, .int .u64 h.f3, .int .u64 h.f4, .slice mA5 m5.length mc5, .slice mA6 m6.length mc6, .slice mA7 m7.length mc7, .slice mA8 m8.length mc8] 64)); replace hx := fun i => X.out.cell i
  have T7 := Aside0.mk (Blk.new W1 #[.int .i64 h.f0, .int .u64 h.f1, .int .u64 h.f2, .int .u64 h.f3, .int .u64 h.f4, .slice mA5 m5.length mc5, .slice mA6 m6.length mc6, .slice mA7 m7.length mc7, .slice mA8 m8.length mc8] 64); have ht7 := fun i => T7.out.cell i; clear hal
  go_wp2_with (first | (go_at_call 88; (with_reducible refine (CK.out _ _ _ _ HV.out VP.out VN.out).mono ?_); rintro e W2 ⟨rfl, hb⟩; replace B := Aside0.mk (below_then B.out B.out.size hb); replace HV := Aside0.mk (HV.out.below hb); replace VP := Aside0.mk (VP.out.below hb); replace VN := Aside0.mk (VN.out.below hb); replace M := Aside0.mk (M.out.below hb); replace C5 := Aside0.mk (C5.out.below hb); replace C6 := Aside0.mk (C6.out.below hb); replace X := Aside0.mk (X.out.below hb); replace hx := fun i => X.out.cell i; replace T7 := Aside0.mk (T7.out.below hb); replace ht7 := fun i => T7.out.cell i; clear  hb) | (go_at_call 67; (with_reducible refine (CQ.out _ _ M.out).mono ?_); rintro e W3 ⟨rfl, hb⟩; replace B := Aside0.mk (below_then B.out B.out.size hb); replace HV := Aside0.mk (HV.out.below hb); replace VP := Aside0.mk (VP.out.below hb); replace VN := Aside0.mk (VN.out.below hb); replace M := Aside0.mk (M.out.below hb); replace C5 := Aside0.mk (C5.out.below hb); replace C6 := Aside0.mk (C6.out.below hb); replace X := Aside0.mk (X.out.below hb); replace hx := fun i => X.out.cell i; replace T7 := Aside0.mk (T7.out.below hb); replace ht7 := fun i => T7.out.cell i; clear  hb) | (go_at_call 89; (with_reducible refine (numbers_c _ _ _ _ _ _ _ _ _ _ _ _ _ _ _ _ _ _ _ _ _ _ _ _ _ _ _ _ _ _).mono ?_); rintro e W4 ⟨rfl, hb⟩; replace B := Aside0.mk (below_then B.out B.out.size hb); replace HV := Aside0.mk (HV.out.below hb); replace VP := Aside0.mk (VP.out.below hb); replace VN := Aside0.mk (VN.out.below hb); replace M := Aside0.mk (M.out.below hb); replace C5 := Aside0.mk (C5.out.below hb); replace C6 := Aside0.mk (C6.out.below hb); replace X := Aside0.mk (X.out.below hb); replace hx := fun i => X.out.cell i; replace T7 := Aside0.mk (T7.out.below hb); replace ht7 := fun i => T7.out.cell i; clear  hb) | (go_at_call 47; (with_reducible refine (N5.out _ _ C5.out).mono ?_); rintro e W5 ⟨rfl, hb⟩; replace B := Aside0.mk (below_then B.out B.out.size hb); replace HV := Aside0.mk (HV.out.below hb); replace VP := Aside0.mk (VP.out.below hb); replace VN := Aside0.mk (VN.out.below hb); replace M := Aside0.mk (M.out.below hb); replace C5 := Aside0.mk (C5.out.below hb); replace C6 := Aside0.mk (C6.out.below hb); replace X := Aside0.mk (X.out.below hb); replace hx := fun i => X.out.cell i; replace T7 := Aside0.mk (T7.out.below hb); replace ht7 := fun i => T7.out.cell i; clear  hb) | (go_at_call 47; (with_reducible refine (N6.out _ _ C6.out).mono ?_); rintro e W6 ⟨rfl, hb⟩; replace B := Aside0.mk (below_then B.out B.out.size hb); replace HV := Aside0.mk (HV.out.below hb); replace VP := Aside0.mk (VP.out.below hb); replace VN := Aside0.mk (VN.out.below hb); replace M := Aside0.mk (M.out.below hb); replace C5 := Aside0.mk (C5.out.below hb); replace C6 := Aside0.mk (C6.out.below hb); replace X := Aside0.mk (X.out.below hb); replace hx := fun i => X.out.cell i; replace T7 := Aside0.mk (T7.out.below hb); replace ht7 := fun i => T7.out.cell i; clear  hb) | (go_at_call 76; (with_reducible refine (R0.out _ _ M.out).mono ?_); rintro e W7 ⟨l0, rfl, hl, hb⟩; replace B := Aside0.mk (below_then B.out B.out.size hb); replace HV := Aside0.mk (HV.out.below hb); replace VP := Aside0.mk (VP.out.below hb); replace VN := Aside0.mk (VN.out.below hb); replace M := Aside0.mk (M.out.below hb); replace C5 := Aside0.mk (C5.out.below hb); replace C6 := Aside0.mk (C6.out.below hb); replace X := Aside0.mk (X.out.below hb); replace hx := fun i => X.out.cell i; replace T7 := Aside0.mk (T7.out.below hb); replace ht7 := fun i => T7.out.cell i; have L0 := Aside0.mk hl; have hl' := L0.out; obtain ⟨laA, lac, eL, -⟩ := hl'; subst eL; clear hl hb) | (go_at_call 76; (with_reducible refine (R1.out _ _ M.out).mono ?_); rintro e W8 ⟨l1, rfl, hl, hb⟩; replace B := Aside0.mk (below_then B.out B.out.size hb); replace HV := Aside0.mk (HV.out.below hb); replace VP := Aside0.mk (VP.out.below hb); replace VN := Aside0.mk (VN.out.below hb); replace M := Aside0.mk (M.out.below hb); replace C5 := Aside0.mk (C5.out.below hb); replace C6 := Aside0.mk (C6.out.below hb); replace L0 := Aside0.mk (L0.out.below hb); replace X := Aside0.mk (X.out.below hb); replace hx := fun i => X.out.cell i; replace T7 := Aside0.mk (T7.out.below hb); replace ht7 := fun i => T7.out.cell i; have L1 := Aside0.mk hl; have hl' := L1.out; obtain ⟨lbA, lbc, eL, -⟩ := hl'; subst eL; clear hl hb) | (go_at_call 40; (with_reducible refine (EP.out _ _ _ L0.out VP.out).mono ?_); rintro e W9 ⟨rfl, hb⟩; replace B := Aside0.mk (below_then B.out B.out.size hb); replace HV := Aside0.mk (HV.out.below hb); replace VP := Aside0.mk (VP.out.below hb); replace VN := Aside0.mk (VN.out.below hb); replace M := Aside0.mk (M.out.below hb); replace C5 := Aside0.mk (C5.out.below hb); replace C6 := Aside0.mk (C6.out.below hb); replace L0 := Aside0.mk (L0.out.below hb); replace L1 := Aside0.mk (L1.out.below hb); replace X := Aside0.mk (X.out.below hb); replace hx := fun i => X.out.cell i; replace T7 := Aside0.mk (T7.out.below hb); replace ht7 := fun i => T7.out.cell i; clear  hb) | (go_at_call 40; (with_reducible refine (EN.out _ _ _ L1.out VN.out).mono ?_); rintro e W10 ⟨rfl, hb⟩; replace B := Aside0.mk (below_then B.out B.out.size hb); replace HV := Aside0.mk (HV.out.below hb); replace VP := Aside0.mk (VP.out.below hb); replace VN := Aside0.mk (VN.out.below hb); replace M := Aside0.mk (M.out.below hb); replace C5 := Aside0.mk (C5.out.below hb); replace C6 := Aside0.mk (C6.out.below hb); replace L0 := Aside0.mk (L0.out.below hb); replace L1 := Aside0.mk (L1.out.below hb); replace X := Aside0.mk (X.out.below hb); replace hx := fun i => X.out.cell i; replace T7 := Aside0.mk (T7.out.below hb); replace ht7 := fun i => T7.out.cell i; clear  hb) | (go_at_call 70; (with_reducible refine (awake09_c _).mono ?_); rintro e W11 ⟨rfl, hb⟩; replace B := Aside0.mk (below_then B.out B.out.size hb); replace HV := Aside0.mk (HV.out.below hb); replace VP := Aside0.mk (VP.out.below hb); replace VN := Aside0.mk (VN.out.below hb); replace M := Aside0.mk (M.out.below hb); replace C5 := Aside0.mk (C5.out.below hb); replace C6 := Aside0.mk (C6.out.below hb); replace L0 := Aside0.mk (L0.out.below hb); replace L1 := Aside0.mk (L1.out.below hb); replace X := Aside0.mk (X.out.below hb); replace hx := fun i => X.out.cell i; replace T7 := Aside0.mk (T7.out.below hb); replace ht7 := fun i => T7.out.cell i; clear  hb))
  go_ret
  exact ⟨rfl, B.out⟩
set_option maxHeartbeats 16000000 in
set_option maxRecDepth 100000 in
theorem histMakes_c (h : Hi) (p n : List Pr) (hw : wfI h) (hp : wfPrs p) (hn : wfPrs n) (w : World) (u vp vn : Value) (hu : HI w u h) (hvp : SI kPr w vp p) (hvn : SI kPr w vn n) : Calls Try.prog 17 #[u, vp, vn] w fun e w' => e = .returned (.bool true) ∧ Below w.heap.size w w' := by
  have hud := Try.underlying64
  have hvp' := hvp
  have hvn' := hvn
  obtain ⟨ap, cp, e1, -⟩ := hvp'
  obtain ⟨an, cn, e2, -⟩ := hvn'
  subst e1; subst e2
  by_cases c1 : p.length ≤ 300
  · by_cases c2 : n.length ≤ 300
    · by_cases hr : makesR h p n = 0
      · exact histMakes_yes h p n hw hp hn c1 c2 hr w u ap an cp cn hu hvp hvn
      · exact histMakes_no h p n hw hp hn c1 c2 hr w u ap an cp cn hu hvp hvn
    · have g3 : ¬ (300 : Int) < (p.length : Int) := by omega
      have g4 : (300 : Int) < (n.length : Int) := by omega
      clear c1 c2 hp hn hw
      obtain ⟨A5, c5, A6, c6, A7, c7, A8, c8, e, h5, h6, h7, h8⟩ := hu.open_
      subst e
      have B := Aside0.mk (below_alloc (Below.refl w.heap.size w) (.cells #[.int .i64 h.f0, .int .u64 h.f1, .int .u64 h.f2, .int .u64 h.f3, .int .u64 h.f4, .slice A5 h.f5.length c5, .slice A6 h.f6.length c6, .slice A7 h.f7.length c7, .slice A8 h.f8.length c8] 64))
      have X := Aside0.mk (Blk.new w #[.int .i64 h.f0, .int .u64 h.f1, .int .u64 h.f2, .int .u64 h.f3, .int .u64 h.f4, .slice A5 h.f5.length c5, .slice A6 h.f6.length c6, .slice A7 h.f7.length c7, .slice A8 h.f8.length c8] 64)
      have hx := fun i => X.out.cell i
      have HV := Aside0.mk (hu.below B.out)
      have VP := Aside0.mk (hvp.below B.out)
      have VN := Aside0.mk (hvn.below B.out)
      clear hu h5 h6 h7 h8 hvp hvn
      go_enter Try.func17, Try.ntmps17
      go_wp2_with (first | (go_at_call 70; (with_reducible refine (awake09_c _).mono ?_); rintro e W1 ⟨rfl, hb⟩; replace B := Aside0.mk (below_then B.out B.out.size hb); replace X := Aside0.mk (X.out.below hb); replace hx := fun i => X.out.cell i; clear  hb))
      go_ret
      exact ⟨rfl, B.out⟩
  · have g3 : (300 : Int) < (p.length : Int) := by omega
    clear c1 hp hn hw
    obtain ⟨A5, c5, A6, c6, A7, c7, A8, c8, e, h5, h6, h7, h8⟩ := hu.open_
    subst e
    have B := Aside0.mk (below_alloc (Below.refl w.heap.size w) (.cells #[.int .i64 h.f0, .int .u64 h.f1, .int .u64 h.f2, .int .u64 h.f3, .int .u64 h.f4, .slice A5 h.f5.length c5, .slice A6 h.f6.length c6, .slice A7 h.f7.length c7, .slice A8 h.f8.length c8] 64))
    have X := Aside0.mk (Blk.new w #[.int .i64 h.f0, .int .u64 h.f1, .int .u64 h.f2, .int .u64 h.f3, .int .u64 h.f4, .slice A5 h.f5.length c5, .slice A6 h.f6.length c6, .slice A7 h.f7.length c7, .slice A8 h.f8.length c8] 64)
    have hx := fun i => X.out.cell i
    have HV := Aside0.mk (hu.below B.out)
    have VP := Aside0.mk (hvp.below B.out)
    have VN := Aside0.mk (hvn.below B.out)
    clear hu h5 h6 h7 h8 hvp hvn
    go_enter Try.func17, Try.ntmps17
    go_wp2_with (first | (go_at_call 70; (with_reducible refine (awake09_c _).mono ?_); rintro e W1 ⟨rfl, hb⟩; replace B := Aside0.mk (below_then B.out B.out.size hb); replace X := Aside0.mk (X.out.below hb); replace hx := fun i => X.out.cell i; clear  hb))
    go_ret
    exact ⟨rfl, B.out⟩
def tidepolelaw09_HistMakes.f (s0 z0 zc0 ct0 sm0 : Int) (l0_5 l0_6 : List Sp) (l0_7 l0_8 : List Int) (p : List Pr) (n : List Pr) : Option Bool := if wfI ⟨s0, z0, zc0, ct0, sm0, l0_5, l0_6, l0_7, l0_8⟩ ∧ wfPrs p ∧ wfPrs n then some true else none
theorem tidepolelaw09_HistMakes.calls (s0 : Int) (z0 : Int) (zc0 : Int) (ct0 : Int) (sm0 : Int) (A0_5 : Option Addr) (c0_5 : Nat) (l0_5 : List Sp) (A0_6 : Option Addr) (c0_6 : Nat) (l0_6 : List Sp) (A0_7 : Option Addr) (c0_7 : Nat) (l0_7 : List Int) (A0_8 : Option Addr) (c0_8 : Nat) (l0_8 : List Int) (Ap : Option Addr) (cp : Nat) (p : List Pr) (An : Option Addr) (cn : Nat) (n : List Pr) (r : Bool) (w : World) (hr0_5 : Kd.C kSp w A0_5 l0_5.length l0_5) (hc0_5 : l0_5.length ≤ c0_5) (hr0_6 : Kd.C kSp w A0_6 l0_6.length l0_6) (hc0_6 : l0_6.length ≤ c0_6) (hr0_7 : Kd.C (Kd.int .i64) w A0_7 l0_7.length l0_7) (hc0_7 : l0_7.length ≤ c0_7) (hr0_8 : Kd.C (Kd.int .i64) w A0_8 l0_8.length l0_8) (hc0_8 : l0_8.length ≤ c0_8) (hrp : Kd.C kPr w Ap p.length p) (hcp : p.length ≤ cp) (hrn : Kd.C kPr w An n.length n) (hcn : n.length ≤ cn) (h : tidepolelaw09_HistMakes.f s0 z0 zc0 ct0 sm0 l0_5 l0_6 l0_7 l0_8 p n = some r) :
    Calls Try.prog 17 #[.agg #[.int .i64 s0, .int .u64 z0, .int .u64 zc0, .int .u64 ct0, .int .u64 sm0, .slice A0_5 l0_5.length c0_5, .slice A0_6 l0_6.length c0_6, .slice A0_7 l0_7.length c0_7, .slice A0_8 l0_8.length c0_8], .slice Ap p.length cp, .slice An n.length cn] w fun e w' => e = .returned (.bool r) ∧ Below w.heap.size w w' := by
  obtain ⟨⟨q0, q1, q2⟩, rfl⟩ := of_ite_some h
  exact histMakes_c _ _ _ q0 q1 q2 w _ _ _ (HI.mk (h := ⟨s0, z0, zc0, ct0, sm0, l0_5, l0_6, l0_7, l0_8⟩) (.of hr0_5 hc0_5) (.of hr0_6 hc0_6) (.of hr0_7 hc0_7) (.of hr0_8 hc0_8)) (.of hrp hcp) (.of hrn hcn)
end Go.Proofs.Ytacgeafjilipdaa.P
namespace Go.Proofs.Ytacgeafjilipdaa.P
def headSigns : List Char := List.map Char.ofNat [104, 97, 114, 110, 101, 115, 115, 32, 97, 50, 97, 99, 52, 56, 53, 53, 54, 101, 54, 52, 97, 51, 49, 101, 54, 54, 98, 55, 102, 55, 97, 51, 54, 49, 102, 100, 52, 100, 51, 54, 55, 57, 100, 102, 98, 49, 97, 57, 53, 50, 101, 57, 54, 51, 55, 99, 57, 57, 56, 52, 48, 101, 100, 50, 99, 98, 97, 100, 54, 54, 50, 100, 32, 99, 117, 116, 32, 97, 116, 32, 116, 105, 100, 101, 112, 111, 108, 101, 47, 116, 105, 100, 101, 112, 111, 108, 101, 108, 97, 119, 48, 55, 46, 80, 97, 105, 114, 115, 85, 110, 122, 105, 112, 32, 116, 105, 100, 101, 112, 111, 108, 101, 47, 116, 105, 100, 101, 112, 111, 108, 101, 108, 97, 119, 48, 55, 46, 80, 97, 105, 114, 115, 70, 105, 110, 100, 115, 32, 116, 105, 100, 101, 112, 111, 108, 101, 47, 116, 105, 100, 101, 112, 111, 108, 101, 108, 97, 119, 48, 55, 46, 80, 97, 105, 114, 115, 77, 101, 114, 103, 101, 32, 116, 105, 100, 101, 112, 111, 108, 101, 47, 116, 105, 100, 101, 112, 111, 108, 101, 108, 97, 119, 48, 55, 46, 80, 97, 105, 114, 115, 90, 105, 112, 32, 116, 105, 100, 101, 112, 111, 108, 101, 47, 116, 105, 100, 101, 112, 111, 108, 101, 108, 97, 119, 48, 55, 46, 80, 97, 105, 114, 115, 68, 101, 108, 116, 97, 115, 32, 116, 105, 100, 101, 112, 111, 108, 101, 47, 116, 105, 100, 101, 112, 111, 108, 101, 108, 97, 119, 49, 49, 46, 82, 101, 115, 101, 116, 73, 110, 116, 115, 32, 116, 105, 100, 101, 112, 111, 108, 101, 47, 116, 105, 100, 101, 112, 111, 108, 101, 108, 97, 119, 49, 49, 46, 82, 101, 115, 101, 116, 70, 108, 111, 97, 116, 115, 32, 116, 105, 100, 101, 112, 111, 108, 101, 47, 116, 105, 100, 101, 112, 111, 108, 101, 108, 97, 119, 49, 49, 46, 82, 101, 115, 101, 116, 78, 97, 109, 101, 115, 32, 116, 105, 100, 101, 112, 111, 108, 101, 47, 116, 105, 100, 101, 112, 111, 108, 101, 108, 97, 119, 49, 49, 46, 82, 101, 115, 101, 116, 71, 111, 101, 115, 32, 116, 105, 100, 101, 112, 111, 108, 101, 47, 116, 105, 100, 101, 112, 111, 108, 101, 108, 97, 119, 49, 49, 46, 82, 101, 115, 101, 116, 66, 111, 116, 104, 32, 116, 105, 100, 101, 112, 111, 108, 101, 47, 116, 105, 100, 101, 112, 111, 108, 101, 108, 97, 119, 48, 57, 46, 72, 105, 115, 116, 67, 104, 101, 99, 107, 115, 32, 116, 105, 100, 101, 112, 111, 108, 101, 47, 116, 105, 100, 101, 112, 111, 108, 101, 108, 97, 119, 48, 57, 46, 72, 105, 115, 116, 80, 97, 105, 114, 115, 32, 116, 105, 100, 101, 112, 111, 108, 101, 47, 116, 105, 100, 101, 112, 111, 108, 101, 108, 97, 119, 48, 57, 46, 72, 105, 115, 116, 69, 113, 117, 97, 108, 32, 116, 105, 100, 101, 112, 111, 108, 101, 47, 116, 105, 100, 101, 112, 111, 108, 101, 108, 97, 119, 48, 57, 46, 72, 105, 115, 116, 79, 118, 101, 114, 32, 116, 105, 100, 101, 112, 111, 108, 101, 47, 116, 105, 100, 101, 112, 111, 108, 101, 108, 97, 119, 48, 57, 46, 72, 105, 115, 116, 77, 97, 107, 101, 115, 32, 116, 105, 100, 101, 112, 111, 108, 101, 47, 116, 105, 100, 101, 112, 111, 108, 101, 108, 97, 119, 48, 57, 46, 72, 105, 115, 116, 67, 97, 110, 111, 110, 32, 116, 105, 100, 101, 112, 111, 108, 101, 47, 116, 105, 100, 101, 112, 111, 108, 101, 108, 97, 119, 48, 57, 46, 72, 105, 115, 116, 87, 97, 108, 107, 115, 32, 116, 105, 100, 101, 112, 111, 108, 101, 47, 116, 105, 100, 101, 112, 111, 108, 101, 108, 97, 119, 49, 49, 46, 82, 101, 115, 101, 116, 76, 97, 121, 115, 32, 116, 105, 100, 101, 112, 111, 108, 101, 47, 116, 105, 100, 101, 112, 111, 108, 101, 108, 97, 119, 49, 48, 46, 70, 104, 105, 115, 116, 67, 104, 101, 99, 107, 115, 32, 116, 105, 100, 101, 112, 111, 108, 101, 47, 116, 105, 100, 101, 112, 111, 108, 101, 108, 97, 119, 49, 48, 46, 70, 104, 105, 115, 116, 80, 97, 105, 114, 115, 32, 116, 105, 100, 101, 112, 111, 108, 101, 47, 116, 105, 100, 101, 112, 111, 108, 101, 108, 97, 119, 49, 48, 46, 70, 104, 105, 115, 116, 69, 113, 117, 97, 108, 32, 116, 105, 100, 101, 112, 111, 108, 101, 47, 116, 105, 100, 101, 112, 111, 108, 101, 108, 97, 119, 49, 48, 46, 70, 104, 105, 115, 116, 79, 118, 101, 114, 32, 116, 105, 100, 101, 112, 111, 108, 101, 47, 116, 105, 100, 101, 112, 111, 108, 101, 108, 97, 119, 49, 48, 46, 70, 104, 105, 115, 116, 70, 108, 111, 97, 116, 115, 32, 116, 105, 100, 101, 112, 111, 108, 101, 47, 116, 105, 100, 101, 112, 111, 108, 101, 108, 97, 119, 49, 48, 46, 70, 104, 105, 115, 116, 77, 97, 107, 101, 115, 32, 116, 105, 100, 101, 112, 111, 108, 101, 47, 116, 105, 100, 101, 112, 111, 108, 101, 108, 97, 119, 49, 48, 46, 70, 104, 105, 115, 116, 67, 97, 110, 111, 110, 32, 116, 105, 100, 101, 112, 111, 108, 101, 47, 116, 105, 100, 101, 112, 111, 108, 101, 108, 97, 119, 49, 48, 46, 70, 104, 105, 115, 116, 66, 97, 99, 107, 32, 116, 105, 100, 101, 112, 111, 108, 101, 47, 116, 105, 100, 101, 112, 111, 108, 101, 108, 97, 119, 49, 48, 46, 70, 104, 105, 115, 116, 70, 114, 111, 109]
theorem head_is : Try.prog.initOrder = String.ofList headSigns := by kernel_rfl
theorem head_signs : Try.prog.initOrder.toList = headSigns := by rw [head_is]; exact String.toList_ofList
theorem head_first : (behindMainWord (wordsSigns headSigns)).head? = some "cut".toList := by kernel_rfl
theorem head_words : ∃ r, behindMainWord (wordsSigns headSigns) = "cut".toList :: r := by have h := head_first; cases h2 : behindMainWord (wordsSigns headSigns) with | nil => rw [h2] at h; cases h | cons c r => rw [h2] at h; injection h with h; exact ⟨r, by rw [h]⟩
theorem strip_cut (r : List (List Char)) : stripLifts liftWords ("cut".toList :: r) = ([], "cut".toList :: r) := by kernel_rfl
theorem head_lifts : Try.prog.headLifts = [] := by obtain ⟨r, hr⟩ := head_words; unfold Program.headLifts; rw [head_signs, hr, strip_cut]; kernel_rfl
theorem head_doorFits : Try.prog.doorFits [] = true := by kernel_rfl
theorem head_laysLater : Try.prog.laysLater = false := by kernel_rfl
theorem head_bearsReflect : Try.prog.bearsReflect = false := by kernel_rfl
theorem mayEnter_of {P : Program} {L : List Char} {r : List (List Char)} (h1 : P.initOrder.toList = L) (h2 : behindMainWord (wordsSigns L) = "cut".toList :: r) (h3 : P.doorFits [] = true) (h4 : P.laysLater = false) (h5 : P.bearsReflect = false) : P.mayEnter = true := by unfold Program.mayEnter; rw [h1, h2]; simp only [strip_cut, h3, h4, h5]; kernel_rfl
theorem head_mayEnter : Try.prog.mayEnter = true := by obtain ⟨r, hr⟩ := head_words; exact mayEnter_of head_signs hr head_doorFits head_laysLater head_bearsReflect
theorem head_liftsFinal : Try.prog.liftsFinal = false := by obtain ⟨r, hr⟩ := head_words; unfold Program.liftsFinal; rw [head_signs, head_lifts, hr]; kernel_rfl
theorem make_of {P : Program} {L : List Char} {r : List (List Char)} (h1 : P.initOrder.toList = L) (h2 : behindMainWord (wordsSigns L) = "cut".toList :: r) : P.make = some .cut := by unfold Program.make; rw [h1, h2]; kernel_rfl
theorem head_make : Try.prog.make = some .cut := by obtain ⟨r, hr⟩ := head_words; exact make_of head_signs hr
theorem head_laidOut : laidOutB Try.prog = true := by kernel_rfl
theorem head_mapsRowed : mapsRowed Try.prog = true := by kernel_rfl
theorem head_stops : (Try.prog.stops == []) = true := by kernel_rfl
theorem head_stopKnobs : (Try.prog.stopKnobs == []) = true := by kernel_rfl
theorem head_plainKeys : Try.prog.plainKeys = true := by kernel_rfl
theorem head_stopsHeard : Try.prog.stopsHeard = true := by kernel_rfl
end Go.Proofs.Ytacgeafjilipdaa.P
namespace Go.Proofs.Ytacgeafjilipdaa.Pure
open Go.RowKit Go.Proofs.Ytacgeafjilipdaa.P Go.Proofs.YtacgeafjilipdaaW.PrintWords
theorem HistMakes : ∀ (x0 : S64) (x1 : List (S26)) (x2 : List (S26)), wf64 x0 → (fun xs_ => ∀ x_ ∈ xs_, wf26 x_) x1 → (fun xs_ => ∀ x_ ∈ xs_, wf26 x_) x2 → tidepolelaw09_HistMakes.f x0.f0 x0.f1 x0.f2 x0.f3 x0.f4 x0.f5 x0.f6 x0.f7 x0.f8 x1 x2 = some true := fun _ _ _ h0 h1 h2 => if_pos ⟨wfI_of h0, wfPrs_of h1, wfPrs_of h2⟩
end Go.Proofs.Ytacgeafjilipdaa.Pure
namespace Go.Proofs.Ytacgeafjilipdaa.histMakes
open Go.ChangeShapes Go.WideShapes Go.ChangeAt Go.RowKit Go.Proofs.Ytacgeafjilipdaa.P Go.Proofs.YtacgeafjilipdaaW.PrintWords
set_option linter.unusedVariables false
theorem own : ownKnob Try.prog.godebug = none := by kernel_rfl
theorem laidOut : laidOutB Try.prog = true := by kernel_rfl
set_option maxRecDepth 100000 in
set_option maxHeartbeats 4000000 in
theorem lifted (os : Os) (started : os.Started) (H : Type) (enc : TypeId × Value → H) :
    ReturnsInHanded {} Try.checked os 17 .any (Rows.histMakesSpec.pre6 enc Try.prog Try.f17 Rows.histMakesRow.domain false) (Rows.histMakesSpec.post enc Try.prog Try.f17 false true false false) := by
  refine returnsInHanded_of_change_sized (C := Try.checked) own started (by kernel_rfl) Try.func17
    (ChangeSpec.witness6 (enc := enc) (C := Try.checked) false ⟨#[], #[.agg #[.int .i64 0, .int .u64 0, .int .u64 0, .int .u64 0, .int .u64 0, .slice none 0 0, .slice none 0 0, .slice none 0 0, .slice none 0 0], .slice none 0 0, .slice none 0 0], []⟩ 8 (by kernel_rfl) (by kernel_rfl) (by kernel_rfl) (by kernel_rfl)) ?_
  intro W base args ds gs before hval0 hW hcnd hsz0 _
  have hval : ∀ (j : Nat) t v, Try.f17.params[j]? = some t → args[j]? = some v → Value.okWide Try.prog W .any base t v := hval0
  have hW' := hW
  obtain ⟨p, q, hA0, hV, rfl, hfz, hnd⟩ := hW
  have hA : DataW.TrodAll enc Try.prog W 0 (fun _ => true) true Try.f17.params.toList args.toList ds p := hA0
  rw [Try.params17] at hA hval
  obtain ⟨v0, vs0, d0, ds0, p0, q0, hargs, rfl, rfl, h0, r0⟩ := trodAll_cons hA
  obtain ⟨v1, vs1, d1, ds1, p1, q1, rfl, rfl, rfl, h1, r1⟩ := trodAll_cons r0
  obtain ⟨v2, vs2, d2, ds2, p2, q2, rfl, rfl, rfl, h2, r2⟩ := trodAll_cons r1
  obtain ⟨rfl, rfl, rfl⟩ := trodAll_nil r2
  obtain rfl : args = #[v0, v1, v2] := by cases args; simp_all
  obtain ⟨rfl, rfl⟩ := trodVars_none hV
  have k0 := h0
  have lt0 : ∀ x ∈ p0, x.block < W.heap.size := by obtain ⟨m, hm⟩ := k0; exact DataW.trod_lt m _ _ _ hm
  obtain ⟨fu0, hf0⟩ := h0
  obtain ⟨x0, hK0, w0⟩ := opens64 enc W 0 _ true fu0 _ _ hf0
  obtain ⟨cs0, rfl, _⟩ := okWide_struct Try.underlying64 (hval 0 64 v0 rfl rfl)
  obtain ⟨A0_5, c0_5, A0_6, c0_6, A0_7, c0_7, A0_8, c0_8, he0, h0_5_l, hC0_5, h0_6_l, hC0_6, h0_7_l, hC0_7, h0_8_l, hC0_8⟩ := k64_open hK0
  obtain rfl : cs0 = #[.int .i64 x0.f0, .int .u64 x0.f1, .int .u64 x0.f2, .int .u64 x0.f3, .int .u64 x0.f4, .slice A0_5 x0.f5.length c0_5, .slice A0_6 x0.f6.length c0_6, .slice A0_7 x0.f7.length c0_7, .slice A0_8 x0.f8.length c0_8] := by
    have he : cs0.toList = _ := he0
    exact Array.toList_inj.1 he
  have k1 := h1
  have lt1 : ∀ x ∈ p1, x.block < W.heap.size := by obtain ⟨m, hm⟩ := k1; exact DataW.trod_lt m _ _ _ hm
  obtain ⟨fu1, hf1⟩ := h1
  obtain ⟨x1, hK1, w1⟩ := (opens_slice (d := k26) Try.underlying22 (by kernel_rfl) opens26) enc W 0 _ true fu1 _ _ hf1
  obtain ⟨va1, vl1, vc1, rfl⟩ := okWide_slice Try.underlying22 (hval 1 22 v1 rfl rfl)
  obtain ⟨A1, c1, he1, h1_l, hC1⟩ := hK1
  simp [Value.cells] at he1
  obtain ⟨rfl, rfl, rfl⟩ := he1
  have k2 := h2
  have lt2 : ∀ x ∈ p2, x.block < W.heap.size := by obtain ⟨m, hm⟩ := k2; exact DataW.trod_lt m _ _ _ hm
  obtain ⟨fu2, hf2⟩ := h2
  obtain ⟨x2, hK2, w2⟩ := (opens_slice (d := k26) Try.underlying22 (by kernel_rfl) opens26) enc W 0 _ true fu2 _ _ hf2
  obtain ⟨va2, vl2, vc2, rfl⟩ := okWide_slice Try.underlying22 (hval 2 22 v2 rfl rfl)
  obtain ⟨A2, c2, he2, h2_l, hC2⟩ := hK2
  simp [Value.cells] at he2
  obtain ⟨rfl, rfl, rfl⟩ := he2
  clear hA0 hval0 hsz0
  obtain hk := Pure.HistMakes x0 x1 x2 w0 w1 w2
  refine (P.tidepolelaw09_HistMakes.calls x0.f0 x0.f1 x0.f2 x0.f3 x0.f4 A0_5 c0_5 x0.f5 A0_6 c0_6 x0.f6 A0_7 c0_7 x0.f7 A0_8 c0_8 x0.f8 va1 vc1 x1 va2 vc2 x2 true W hC0_5 h0_5_l hC0_6 h0_6_l hC0_7 h0_7_l hC0_8 h0_8_l hC1 h1_l hC2 h2_l hk).mono fun e W' ⟨he, bel⟩ => ?_
  subst he
  exact ⟨_, rfl, _, _, _, [], _, [], hW', trodAll_mk1 (shut_bool Try.underlying4 _), (trodAll_cons_mk (Below.trod laidOut (by kernel_rfl) (of_decide_eq_true (by kernel_rfl)) k0 bel lt0) (trodAll_cons_mk (Below.trod laidOut (by kernel_rfl) (of_decide_eq_true (by kernel_rfl)) k1 bel lt1) (trodAll_cons_mk (Below.trod laidOut (by kernel_rfl) (of_decide_eq_true (by kernel_rfl)) k2 bel lt2) trodAll_mk0))), rfl, bel.frame _, fun h => by cases h⟩
theorem cf0 : (Rows.histMakesRow.wf (OpenSpec.ofChange Rows.histMakesSpec)) = true := by kernel_rfl
theorem cf1 : (laidOutB Try.prog) = true := P.head_laidOut
theorem cf2 : (mapsRowed Try.prog) = true := P.head_mapsRowed
theorem cf3 : (Try.f17.params.all (Try.prog.readableRec ·)) = true := by kernel_rfl
theorem cf4 : (namedTie Try.prog Rows.histMakesRow.named Rows.histMakesSpec.vars) = true := by kernel_rfl
theorem cf5 : ((Rows.histMakesRow.stops == [])) = true := by kernel_rfl
theorem cf6 : ((Try.prog.stops == [])) = true := P.head_stops
theorem cf7 : ((Rows.histMakesRow.knobs == [])) = true := by kernel_rfl
theorem cf8 : ((Try.prog.stopKnobs == [])) = true := P.head_stopKnobs
theorem cf9 : ((Rows.histMakesRow.inPlace == Try.prog.inPlace 17)) = true := by kernel_rfl
theorem cf10 : ((Rows.histMakesRow.unfollowed == Try.prog.unfollowed 17)) = true := by kernel_rfl
theorem cf11 : ((Rows.histMakesRow.recurses == Try.prog.recurses 17)) = true := by kernel_rfl
theorem cf12 : ((Rows.histMakesRow.named == Try.prog.varsNamed 17)) = true := by kernel_rfl
theorem cf13 : ((Rows.histMakesRow.maps == (Try.f17.params.toList ++ Rows.histMakesSpec.plain.varTypes Try.prog).any (Try.prog.mapsRec ·))) = true := by kernel_rfl
theorem cf14 : ((Rows.histMakesRow.ifaces == (Try.f17.params.toList ++ Rows.histMakesSpec.plain.varTypes Try.prog).any (Try.prog.ifacesRec ·))) = true := by kernel_rfl
theorem cf15 : ((Rows.histMakesRow.mapsOut == Try.prog.mapsAmong Try.f17.resultTypes.toList)) = true := by kernel_rfl
theorem cf16 : ((Rows.histMakesRow.loops == (Try.f17.params.toList ++ Rows.histMakesSpec.plain.varTypes Try.prog).any (Try.prog.loopsFrom ·))) = true := by kernel_rfl
theorem cf17 : ((Rows.histMakesRow.wideKeys == (Try.f17.params.toList ++ Rows.histMakesSpec.plain.varTypes Try.prog ++ Try.f17.resultTypes.toList).any (Try.prog.wideKeysFrom ·))) = true := by kernel_rfl
theorem cf18 : (Rows.histMakesSpec.vars.all (Try.prog.varReadable ·)) = true := by kernel_rfl
theorem cf19 : (Try.f17.resultTypes.all (fun t => Try.prog.readableRec t && decide (t < Try.prog.types.size))) = true := by kernel_rfl
theorem cf20 : ((Rows.histMakesRow.ifacesOut == Try.f17.resultTypes.toList.any (Try.prog.ifacesRec ·))) = true := by kernel_rfl
theorem cf21 : ((Rows.histMakesRow.loopsOut == Try.f17.resultTypes.toList.any (Try.prog.loopsFrom ·))) = true := by kernel_rfl
theorem cf22 : ((Rows.histMakesRow.plainKeys == Try.prog.plainKeys)) = true := by rw [P.head_plainKeys]; kernel_rfl
theorem cf23 : (Rows.histMakesRow.shortTexts.isNone) = true := by kernel_rfl
theorem cf24 : (Try.prog.stopsHeard) = true := P.head_stopsHeard
theorem cf25 : (Try.prog.mayEnter) = true := P.head_mayEnter
theorem cf26 : ((Rows.histMakesRow.lifted == Try.prog.liftsFinal)) = true := by rw [P.head_liftsFinal]; kernel_rfl
theorem cf27 : ((Try.prog.make == some Rows.histMakesRow.make)) = true := by rw [P.head_make]; kernel_rfl
theorem cf28 : ((Rows.histMakesRow.kinds == (if Rows.histMakesRow.domain.isEmpty then [] else Try.f17.params.toList.map fun t => match Try.prog.underlying t with | some (.int k) => some k | _ => none))) = true := by kernel_rfl
theorem cf29 : ((Rows.histMakesRow.pinned == Rows.histMakesRow.pinnedBy)) = true := by kernel_rfl
theorem cf30 : ((Rows.histMakesRow.veiled == (Try.f17.params.toList ++ Rows.histMakesSpec.plain.varTypes Try.prog ++ Try.f17.resultTypes.toList).any (Try.prog.veiledRec ·))) = true := by kernel_rfl
theorem cf31 : (Rows.histMakesRow.veiledFits Try.prog Try.f17.params.toList (Try.f17.params.toList ++ Rows.histMakesSpec.plain.varTypes Try.prog ++ Try.f17.resultTypes.toList)) = true := by kernel_rfl
theorem band_mk {a b : Bool} (h : a = true) (k : b = true) : (a && b) = true := by rw [h, k]; rfl
theorem closed : joinedFacts Try.prog 17 Try.f17 Rows.histMakesSpec Rows.histMakesRow = true := by unfold joinedFacts; exact (band_mk (band_mk (band_mk (band_mk (band_mk (band_mk (band_mk (band_mk (band_mk (band_mk (band_mk (band_mk (band_mk (band_mk (band_mk (band_mk (band_mk (band_mk (band_mk (band_mk (band_mk (band_mk (band_mk (band_mk (band_mk (band_mk (band_mk (band_mk (band_mk (band_mk (band_mk cf0 cf1) cf2) cf3) cf4) cf5) cf6) cf7) cf8) cf9) cf10) cf11) cf12) cf13) cf14) cf15) cf16) cf17) cf18) cf19) cf20) cf21) cf22) cf23) cf24) cf25) cf26) cf27) (by kernel_rfl)) cf29) cf30) cf31)
theorem over : Rows.histMakesRow.holds Try.pinned (OpenSpec.ofChange Rows.histMakesSpec) :=
  OpenClaim.holds_of_wide 17 Try.f17 rfl rfl rfl rfl rfl rfl rfl ⟨rfl, rfl, rfl, rfl, rfl⟩ rfl rfl rfl rfl rfl (by kernel_rfl) Try.func17 closed
    (of_decide_eq_true (by kernel_rfl)) (by unfold Func.isWrapper; first | (rw [if_pos (by decide +kernel)]; kernel_rfl) | (rw [if_neg (by decide +kernel)]; exact ⟨rfl, rfl⟩))
    (fun os started H enc _ => lifted os started H enc)
theorem proved : Rows.HistMakesSaid := over
#print axioms proved
end Go.Proofs.Ytacgeafjilipdaa.histMakes
namespace Go.Proofs.Ytacgeafjilipdaa
theorem histMakes_holds : Rows.HistMakesSaid := histMakes.proved
end Go.Proofs.Ytacgeafjilipdaa
