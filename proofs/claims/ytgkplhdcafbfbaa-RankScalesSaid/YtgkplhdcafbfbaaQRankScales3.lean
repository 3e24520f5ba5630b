/- RankScales: the part that this text bears of the proof that the statement answers true for every input. No condition. -/
import Derived.Test.YtgkplhdcafbfbaaProg
import Derived.Below
import Derived.Deep.Draws
import Derived.Deep.AppendLies
import Derived.Maps.AppendAt
import Derived.OwnWalk
import Derived.Laws.BytesArg
import Derived.Laws.MakeOwn
import Derived.Laws.OwnMore
import Derived.Deep.OwnRows
import Derived.Tactics
import Derived.Lib.ConvBytes
import Derived.Laws.Slices
import Derived.WalkKit
import Derived.KernelRfl
import Derived.RowKit3
import Derived.Deep.LoopGhost
import Derived.Deep.QuietTactic
import Derived.BigQuiet
import Derived.WideLaws
import Derived.Deep.DeepCutAuto
import Derived.Deep.CutBlock
import Derived.Deep.RegionHeld3
import Derived.Laws.Rows
import Derived.Lib.AppendStr
import Derived.ArgAppend
import Derived.Laws.IdiomCopy
import Derived.OrdersHeld
import Derived.Laws.BitsLemmas
import Derived.RowKit
import Derived.Deep.Slices
import Derived.ChangeArms
import Derived.Shelf.Abstract
import Derived.WalkSpells
import Derived.RangeFuncNested
import Derived.RangeFuncBound
import Derived.RangeFuncCalls
import Derived.RangeFuncLeaves
import Derived.RangeFuncBox
import Derived.OwnWalkIn
import Derived.TacticsInMore
import Derived.LoopNIn
import Derived.LoopIn
import Derived.Laws.Externs
import Derived.Shelf.Spec.BitsCarry
import Derived.RegionIn
import Derived.Sort.QuietTacIn
import Derived.Deep.RegionWith
import Derived.Laws.BitsAllLaws
import Derived.Outline
import Derived.Shelf.Lays
import Derived.Shelf.Strings.Builder1
import Derived.Shelf.Small.Bits
import Derived.Shelf.Bits.Mul64
import Derived.Laws.StructEq
import Derived.Test.YtgkplhdcafbfbaaQRankScalesWWords
import Derived.Test.YtgkplhdcafbfbaaQRankScalesWLast
import Derived.Test.YtgkplhdcafbfbaaQRankScalesWTab
import Derived.Test.YtgkplhdcafbfbaaQRankScalesWFour
import Derived.Test.YtgkplhdcafbfbaaQRankScalesWQPut
import Derived.Test.YtgkplhdcafbfbaaQRankScalesWApart
import Derived.Test.YtgkplhdcafbfbaaQRankScalesWArr
import Derived.Test.YtgkplhdcafbfbaaQRankScalesWZeros
import Derived.Test.YtgkplhdcafbfbaaQRankScalesWFoot
import Derived.Test.YtgkplhdcafbfbaaQRankScalesWKept
import Derived.Test.YtgkplhdcafbfbaaQRankScalesWShare
import Derived.Test.YtgkplhdcafbfbaaQRankScalesWN
import Derived.Test.YtgkplhdcafbfbaaQRankScalesWFootNe
import Derived.Test.YtgkplhdcafbfbaaQRankScalesWAt
import Derived.Test.YtgkplhdcafbfbaaQRankScalesWEqStruct
import Derived.Test.YtgkplhdcafbfbaaQRankScalesWRepsOne
import Derived.Test.YtgkplhdcafbfbaaQRankScalesWInv
import Derived.Test.YtgkplhdcafbfbaaQRankScalesWInvWords
import Derived.Test.YtgkplhdcafbfbaaQRankScalesWGuard
import Derived.Test.YtgkplhdcafbfbaaQRankScalesWNEv
import Derived.Test.YtgkplhdcafbfbaaQRankScalesWMore
import Derived.Test.YtgkplhdcafbfbaaRows
import Derived.Test.YtgkplhdcafbfbaaQRankScales0
import Derived.Test.YtgkplhdcafbfbaaQRankScales1
import Derived.Test.YtgkplhdcafbfbaaQRankScales2
set_option linter.unusedVariables false
set_option linter.unusedSimpArgs false
namespace Go.Proofs.Ytgkplhdcafbfbaa.P
open Go.RowKit Go.Shelf Go.Proofs.YtgkplhdcafbfbaaW.PrintWords Go.Proofs.YtgkplhdcafbfbaaW.PrintLast Go.Proofs.YtgkplhdcafbfbaaW.PrintMore
theorem sumB_nonneg : ∀ {l : List Bk}, (∀ b ∈ l, 0 ≤ b.n) → 0 ≤ sumB l
  | [], _ => by simp [sumB]
  | b :: l, h => by
    have h1 := sumB_nonneg (l := l) (fun x hx => h x (List.mem_cons_of_mem _ hx))
    have h2 := h b (List.mem_cons_self ..)
    simp only [sumB]; omega
def ordB (a b : Bk) : Prop := thirdI a.s < thirdI b.s ∨ (a.s = 1 ∧ b.s = 1 ∧ b.p < a.p) ∨ (a.s = 0 ∧ b.s = 0 ∧ a.p < b.p)
theorem segW_side {s : Int} {l : List Pr} {b : Bk} (h : b ∈ segW s l) : b.s = s := by
  unfold segW at h
  obtain ⟨q, hq, rfl⟩ := List.mem_map.1 h
  rfl
theorem told_ord {h : Hi} (hw : wfH h) : (toldW h).Pairwise ordB := by
  unfold toldW
  by_cases c : checkR h = 0
  rotate_left
  · rw [if_neg c]; exact List.Pairwise.nil
  rw [if_pos c]
  have hrow := openR_row hw
  have hz : ∀ b ∈ (if h.f2 = 0 then [] else [(⟨2, 0, h.f2⟩ : Bk)]), b.s = 2 := fun b hb => by
    by_cases z : h.f2 = 0
    · rw [if_pos z] at hb; simp at hb
    · rw [if_neg z] at hb; obtain rfl := List.mem_singleton.1 hb; rfl
  refine List.pairwise_append.2 ⟨?_, List.pairwise_append.2 ⟨?_, ?_, ?_⟩, ?_⟩
  · have h1 : ((openR h).2.1.reverse).Pairwise (fun a b : Pr => b.f0 < a.f0) := List.pairwise_reverse.2 hrow.2.ups
    unfold segW
    rw [List.pairwise_map]
    exact (h1.filter _).imp (fun {a b} hab => .inr (.inl ⟨rfl, rfl, hab⟩))
  · by_cases z : h.f2 = 0
    · rw [if_pos z]; exact List.Pairwise.nil
    · rw [if_neg z]; exact List.pairwise_singleton _ _
  · have h1 : ((openR h).1).Pairwise (fun a b : Pr => a.f0 < b.f0) := hrow.1.ups
    unfold segW
    rw [List.pairwise_map]
    exact (h1.filter _).imp (fun {a b} hab => .inr (.inr ⟨rfl, rfl, hab⟩))
  · intro a ha b hb
    left
    rw [hz a ha, segW_side hb]; decide
  · intro a ha b hb
    left
    rw [segW_side ha]
    rcases List.mem_append.1 hb with hb | hb
    · rw [hz b hb]; decide
    · rw [segW_side hb]; decide
theorem told_side {h : Hi} {b : Bk} (hb : b ∈ toldW h) : b.s = 0 ∨ b.s = 1 ∨ b.s = 2 := by
  unfold toldW at hb
  by_cases c : checkR h = 0
  rotate_left
  · rw [if_neg c] at hb; simp at hb
  rw [if_pos c] at hb
  rcases List.mem_append.1 hb with hb | hb
  · exact .inr (.inl (segW_side hb))
  rcases List.mem_append.1 hb with hb | hb
  · by_cases z : h.f2 = 0
    · rw [if_pos z] at hb; simp at hb
    · rw [if_neg z] at hb; obtain rfl := List.mem_singleton.1 hb; exact .inr (.inr rfl)
  · exact .inl (segW_side hb)
theorem findK_some : ∀ {l : List Bk} {k : Int} {b : Bk}, findK l k = some b → 0 < k → ∃ l1 l2, l = l1 ++ b :: l2 ∧ sumB l1 < k ∧ k ≤ sumB l1 + b.n
  | [], k, b, h, _ => by simp [findK] at h
  | x :: l, k, b, h, h0 => by
    simp only [findK] at h
    by_cases c : k ≤ x.n
    · rw [if_pos c] at h
      obtain rfl := Option.some.inj h
      exact ⟨[], l, rfl, by simp [sumB]; omega, by simp [sumB]; omega⟩
    · rw [if_neg c] at h
      obtain ⟨l1, l2, rfl, h1, h2⟩ := findK_some h (by omega)
      exact ⟨x :: l1, l2, rfl, by simp only [sumB]; omega, by simp only [sumB]; omega⟩
theorem takeWhile_filter {α : Type} {p : α → Bool} : ∀ {l : List α}, l.Pairwise (fun a b => p b = true → p a = true) → l.takeWhile p = l.filter p
  | [], _ => rfl
  | a :: l, h => by
    have h1 := List.pairwise_cons.1 h
    rw [List.takeWhile_cons, List.filter_cons]
    by_cases c : p a = true
    · rw [if_pos c, if_pos c, takeWhile_filter h1.2]
    · rw [if_neg c, if_neg c]
      symm
      rw [List.filter_eq_nil_iff]
      exact fun b hb hpb => c (h1.1 b hb hpb)
theorem behind_mono {a b : Bk} {side place : Int} (ho : ordB a b) (ha : behindB a side place = true) : behindB b side place = true := by
  unfold behindB at ha ⊢
  rcases ho with h | ⟨h1, h2, h3⟩ | ⟨h1, h2, h3⟩
  · have h4 : thirdI side ≤ thirdI a.s := by
      by_cases c : thirdI a.s = thirdI side
      · omega
      · rw [if_neg c] at ha; have := of_decide_eq_true ha; omega
    rw [if_neg (by omega)]
    exact decide_eq_true (by omega)
  · rw [h1] at ha; rw [h2]
    by_cases c : thirdI 1 = thirdI side
    · rw [if_pos c] at ha ⊢
      by_cases s1 : side = 1
      · rw [if_pos s1] at ha ⊢; have := of_decide_eq_true ha; exact decide_eq_true (by omega)
      · rw [if_neg s1] at ha ⊢
        by_cases s0 : side = 0
        · rw [s0] at c; cases c
        · rw [if_neg s0] at ha; cases ha
    · rw [if_neg c] at ha ⊢; exact ha
  · rw [h1] at ha; rw [h2]
    by_cases c : thirdI 0 = thirdI side
    · rw [if_pos c] at ha ⊢
      by_cases s1 : side = 1
      · rw [s1] at c; cases c
      · rw [if_neg s1] at ha ⊢
        by_cases s0 : side = 0
        · rw [if_pos s0] at ha ⊢; have := of_decide_eq_true ha; exact decide_eq_true (by omega)
        · rw [if_neg s0] at ha; cases ha
    · rw [if_neg c] at ha ⊢; exact ha
theorem behind_self (b : Bk) : behindB b b.s b.p = false := by
  unfold behindB
  rw [if_pos rfl]
  by_cases h1 : b.s = 1
  · rw [if_pos h1]; simp
  · rw [if_neg h1]
    by_cases h0 : b.s = 0
    · rw [if_pos h0]; simp
    · rw [if_neg h0]
theorem behind_of_ord {a b : Bk} (ho : ordB a b) (hb : b.s = 0 ∨ b.s = 1 ∨ b.s = 2) : behindB b a.s a.p = true ∧ behindB a b.s b.p = false := by
  unfold behindB
  rcases ho with h | ⟨h1, h2, h3⟩ | ⟨h1, h2, h3⟩
  · rw [if_neg (by omega), if_neg (by omega)]
    exact ⟨decide_eq_true (by omega), decide_eq_false (by omega)⟩
  · rw [h1, h2, if_pos rfl, if_pos rfl, if_pos rfl, if_pos rfl]
    exact ⟨decide_eq_true (by omega), decide_eq_false (by omega)⟩
  · rw [h1, h2, if_pos rfl, if_pos rfl, if_neg (by decide), if_pos rfl, if_neg (by decide), if_pos rfl]
    exact ⟨decide_eq_true (by omega), decide_eq_false (by omega)⟩
theorem below_at {h : Hi} (hw : wfH h) {l1 l2 : List Bk} {b : Bk} (e : toldW h = l1 ++ b :: l2) : (toldW h).takeWhile (fun x => !behindB x b.s b.p) = l1 ++ [b] := by
  have ho := told_ord hw
  rw [e] at ho
  have hs : ∀ x ∈ b :: l2, x.s = 0 ∨ x.s = 1 ∨ x.s = 2 := fun x hx => told_side (h := h) (by rw [e]; exact List.mem_append_right _ hx)
  obtain ⟨p1, p2, p3⟩ := List.pairwise_append.1 ho
  have hb := hs b (List.mem_cons_self ..)
  have hA : ∀ x ∈ l1 ++ [b], (!behindB x b.s b.p) = true := fun x hx => by
    rcases List.mem_append.1 hx with hx | hx
    · rw [(behind_of_ord (p3 x hx b (List.mem_cons_self ..)) hb).2]; rfl
    · obtain rfl := List.mem_singleton.1 hx; rw [behind_self]; rfl
  rw [e, show l1 ++ b :: l2 = (l1 ++ [b]) ++ l2 by simp]
  cases l2 with
  | nil => rw [List.append_nil]; exact takeWhile_all hA
  | cons y l2 =>
    refine takeWhile_stop hA ?_
    have h2 := List.pairwise_cons.1 p2
    rw [(behind_of_ord (h2.1 y (List.mem_cons_self ..)) (hs y (by simp))).1]; rfl
end Go.Proofs.Ytgkplhdcafbfbaa.P
namespace Go.Proofs.Ytgkplhdcafbfbaa.P
open Go.RowKit Go.Shelf Go.Proofs.YtgkplhdcafbfbaaW.PrintWords Go.Proofs.YtgkplhdcafbfbaaW.PrintLast Go.Proofs.YtgkplhdcafbfbaaW.PrintMore
theorem make_right {g : Hi} (hw : wfH g) (c1 : headE g = 0) {p n : List Pr} (rp : RowOK p) (rn : RowOK n) (bp : ∀ q ∈ p, -1048576 ≤ q.f0 ∧ q.f0 ≤ 1048576) (bn : ∀ q ∈ n, -1048576 ≤ q.f0 ∧ q.f0 ≤ 1048576) (lp : p.length ≤ 1024) (ln : n.length ≤ 1024) (hf : fits g.f2 g.f3 g.f4 p n = true) :
    ∃ c : Hi, makeR g p n = (c, 0) ∧ checkR c = 0 ∧ openR c = (p, n, 0) ∧ sameNums c g ∧ wfH c ∧ c.f7.length = p.length ∧ c.f8.length = n.length ∧ canonB true c.f5 = true ∧ canonB true c.f6 = true ∧ c = madeH g p n := by
  obtain ⟨dp, e1, e2, e3, e4, e5, e6⟩ := lay_ok rp bp lp
  obtain ⟨dn, g1, g2, g3, g4, g5, g6⟩ := lay_ok rn bn ln
  have hmade : madeH g p n = ⟨g.f0, g.f1, g.f2, g.f3, g.f4, spansOf (p.map (·.f0)), spansOf (n.map (·.f0)), dp, dn⟩ := by unfold madeH; rw [e1, g1]
  have hmw := madeH_wf hw rp.wf rn.wf
  have hm' := hmade
  rw [hmade] at hmw
  generalize hC : (⟨g.f0, g.f1, g.f2, g.f3, g.f4, spansOf (p.map (·.f0)), spansOf (n.map (·.f0)), dp, dn⟩ : Hi) = c at *
  have hck : checkR c = 0 := by
    subst hC
    refine checkR_right c1 (by simp only [e2]) (by simp only [g2]) ?_
    simp only [e2, g2]
    exact hf
  have hoc : openR c = (p, n, 0) := by
    rw [openR_right hck]
    subst hC
    simp only [e2, g2]
  refine ⟨c, ?_, hck, hoc, by subst hC; exact ⟨rfl, rfl, rfl, rfl, rfl⟩, hmw, by subst hC; exact e5, by subst hC; exact g5, by subst hC; exact e3, by subst hC; exact g3, hm'.symm⟩
  unfold makeR
  rw [e1, g1, hmade]
  simp [hck]
theorem sides_right {h : Hi} (hw : wfH h) (hc : checkR h = 0) : RowOK (openR h).1 ∧ RowOK (openR h).2.1 ∧ (∀ q ∈ (openR h).1, -1048576 ≤ q.f0 ∧ q.f0 ≤ 1048576) ∧ (∀ q ∈ (openR h).2.1, -1048576 ≤ q.f0 ∧ q.f0 ≤ 1048576) ∧ (openR h).1.length = h.f7.length ∧ (openR h).2.1.length = h.f8.length ∧ fits h.f2 h.f3 h.f4 (openR h).1 (openR h).2.1 = true ∧ headE h = 0 := by
  obtain ⟨z1, z2, z3, z4⟩ := checkR_zero hc
  obtain ⟨a, b⟩ := openR_row hw
  have ho := openR_right hc
  have b5 := side_bounds z2
  have b6 := side_bounds z3
  refine ⟨a, b, ?_, ?_, ?_, ?_, ?_, z1⟩
  · rw [ho]; exact b5.1
  · rw [ho]; exact b6.1
  · rw [ho]; exact b5.2.1
  · rw [ho]; exact b6.2.1
  · rw [ho]; exact z4
theorem widen_bound {s : Int} {l r : List Pr} (h : RowOK l) (hr : widenW s l = some r) (hb : ∀ q ∈ l, -1048576 ≤ q.f0 ∧ q.f0 ≤ 1048576) : ∀ q ∈ r, -1048576 ≤ q.f0 ∧ q.f0 ≤ 1048576 := by
  intro q hq
  obtain ⟨q', hq', e⟩ := (widenW_ok h hr).2.2.2 q hq
  rw [e]
  exact placeR_bound (by omega) (hb q' hq').1 (hb q' hq').2
theorem low_right {h : Hi} (hw : wfH h) (hc : checkR h = 0) (h7 : h.f7.length ≤ 1024) (h8 : h.f8.length ≤ 1024) {tt : Int} (ht0 : -4 ≤ tt) (ht1 : tt ≤ h.f0) {p n : List Pr} (hp : widenW (h.f0 - tt) (openR h).1 = some p) (hn : widenW (h.f0 - tt) (openR h).2.1 = some n) :
    ∃ c : Hi, scaleR h tt = (c, 0) ∧ checkR c = 0 ∧ openR c = (some0 p, some0 n, 0) ∧ sameNums c (lowH h tt) ∧ wfH c ∧ c.f7.length = (some0 p).length ∧ c.f8.length = (some0 n).length ∧ canonB true c.f5 = true ∧ canonB true c.f6 = true ∧ c = madeH (lowH h tt) (some0 p) (some0 n) := by
  obtain ⟨r1, r2, b1, b2, l1, l2, hf, hd⟩ := sides_right hw hc
  have hs := checkR_schema hc
  obtain ⟨w1, w2, w3, w4⟩ := widenW_ok r1 hp
  obtain ⟨v1, v2, v3, v4⟩ := widenW_ok r2 hn
  have lp : (some0 p).length ≤ p.length := List.length_filter_le _ _
  have ln : (some0 n).length ≤ n.length := List.length_filter_le _ _
  have hwl : wfH (lowH h tt) := by
    obtain ⟨_, w⟩ := hw
    exact ⟨by show i64 tt; unfold i64; omega, w⟩
  have hdl : headE (lowH h tt) = 0 := by
    unfold headE at hd ⊢
    rw [if_neg (by show ¬ (tt < -4 ∨ tt > 8); omega)]
    rw [if_neg (by omega)] at hd
    exact hd
  have hfl : fits (lowH h tt).f2 (lowH h tt).f3 (lowH h tt).f4 (some0 p) (some0 n) = true := by
    rw [fits_congr _ _ _ ((sumV_some0 p).trans w3) ((sumV_some0 n).trans v3)]; exact hf
  obtain ⟨c, m, rest⟩ := make_right hwl hdl (some0_ok w1) (some0_ok v1) (fun q hq => widen_bound r1 hp b1 q (List.mem_filter.1 hq).1) (fun q hq => widen_bound r2 hn b2 q (List.mem_filter.1 hq).1) (by omega) (by omega) hfl
  refine ⟨c, ?_, rest⟩
  unfold scaleR
  rw [if_neg (by simp [hc]), if_neg (by omega), hp, hn]
  exact m
theorem ints_ok {h : Hi} {tt : Int} (he : (scaleR h tt).2 = 0) : checkR h = 0 ∧ -4 ≤ tt ∧ tt ≤ h.f0 ∧ ∃ p n, widenW (h.f0 - tt) (openR h).1 = some p ∧ widenW (h.f0 - tt) (openR h).2.1 = some n := by
  unfold scaleR at he
  by_cases hc : checkR h = 0
  rotate_left
  · rw [if_pos hc] at he; exact absurd he hc
  rw [if_neg (by simp [hc])] at he
  by_cases ht : tt < -4 ∨ tt > h.f0
  · rw [if_pos ht] at he; cases he
  rw [if_neg ht] at he
  refine ⟨hc, by omega, by omega, ?_⟩
  cases hp : widenW (h.f0 - tt) (openR h).1 with
  | none => rw [hp] at he; cases he
  | some p =>
    cases hn : widenW (h.f0 - tt) (openR h).2.1 with
    | none => rw [hp, hn] at he; cases he
    | some n => exact ⟨p, n, rfl, rfl⟩
end Go.Proofs.Ytgkplhdcafbfbaa.P
namespace Go.Proofs.Ytgkplhdcafbfbaa.P
open Go.RowKit Go.Shelf Go.Proofs.YtgkplhdcafbfbaaW.PrintWords Go.Proofs.YtgkplhdcafbfbaaW.PrintLast Go.Proofs.YtgkplhdcafbfbaaW.PrintMore
abbrev Fh := S46
def GI (w : World) (v : Value) (h : Fh) : Prop :=
  ∃ v5 v6 v7 v8, v = .agg #[.int .i64 h.f0, .int .u64 h.f1, .int .u64 h.f2, .int .u64 h.f3, .int .u64 h.f4, v5, v6, v7, v8] ∧ SI kSp w v5 h.f5 ∧ SI kSp w v6 h.f6 ∧ SI (Kd.int .u64) w v7 h.f7 ∧ SI (Kd.int .u64) w v8 h.f8
theorem GI.below {w w' : World} {v : Value} {h : Fh} (x : GI w v h) (hb : Below w.heap.size w w') : GI w' v h := by
  obtain ⟨v5, v6, v7, v8, e, h5, h6, h7, h8⟩ := x
  exact ⟨v5, v6, v7, v8, e, h5.below hb, h6.below hb, h7.below hb, h8.below hb⟩
theorem GI.open_ {w : World} {v : Value} {h : Fh} (x : GI w v h) : ∃ A5 c5 A6 c6 A7 c7 A8 c8, v = .agg #[.int .i64 h.f0, .int .u64 h.f1, .int .u64 h.f2, .int .u64 h.f3, .int .u64 h.f4, .slice A5 h.f5.length c5, .slice A6 h.f6.length c6, .slice A7 h.f7.length c7, .slice A8 h.f8.length c8] ∧
    SI kSp w (.slice A5 h.f5.length c5) h.f5 ∧ SI kSp w (.slice A6 h.f6.length c6) h.f6 ∧ SI (Kd.int .u64) w (.slice A7 h.f7.length c7) h.f7 ∧ SI (Kd.int .u64) w (.slice A8 h.f8.length c8) h.f8 := by
  obtain ⟨v5, v6, v7, v8, rfl, h5, h6, h7, h8⟩ := x
  obtain ⟨A5, c5, rfl, h51, h52⟩ := h5
  obtain ⟨A6, c6, rfl, h61, h62⟩ := h6
  obtain ⟨A7, c7, rfl, h71, h72⟩ := h7
  obtain ⟨A8, c8, rfl, h81, h82⟩ := h8
  exact ⟨A5, c5, A6, c6, A7, c7, A8, c8, rfl, .of h52 h51, .of h62 h61, .of h72 h71, .of h82 h81⟩
theorem GI.mk {w : World} {h : Fh} {v5 v6 v7 v8 : Value} (h5 : SI kSp w v5 h.f5) (h6 : SI kSp w v6 h.f6) (h7 : SI (Kd.int .u64) w v7 h.f7) (h8 : SI (Kd.int .u64) w v8 h.f8) :
    GI w (.agg #[.int .i64 h.f0, .int .u64 h.f1, .int .u64 h.f2, .int .u64 h.f3, .int .u64 h.f4, v5, v6, v7, v8]) h := ⟨v5, v6, v7, v8, rfl, h5, h6, h7, h8⟩
def emptyF : Fh := ⟨0, 0, 0, 0, 0, [], [], [], []⟩
def GF (base : Nat) (w : World) (v : Value) (h : Fh) : Prop :=
  ∃ v5 v6 v7 v8, v = .agg #[.int .i64 h.f0, .int .u64 h.f1, .int .u64 h.f2, .int .u64 h.f3, .int .u64 h.f4, v5, v6, v7, v8] ∧ FI kSp base w v5 h.f5 ∧ FI kSp base w v6 h.f6 ∧ FI (Kd.int .u64) base w v7 h.f7 ∧ FI (Kd.int .u64) base w v8 h.f8
theorem GF.now {base : Nat} {w : World} {v : Value} {h : Fh} (x : GF base w v h) : GI w v h := by
  obtain ⟨v5, v6, v7, v8, e, h5, h6, h7, h8⟩ := x
  exact ⟨v5, v6, v7, v8, e, h5.now, h6.now, h7.now, h8.now⟩
theorem GF.step {base : Nat} {w w' : World} {v : Value} {h : Fh} (x : GF base w v h) (k : KA base w w') : GF base w' v h := by
  obtain ⟨v5, v6, v7, v8, e, h5, h6, h7, h8⟩ := x
  exact ⟨v5, v6, v7, v8, e, h5.step k, h6.step k, h7.step k, h8.step k⟩
theorem GF.lower {base b : Nat} {w : World} {v : Value} {h : Fh} (x : GF b w v h) (hb : base ≤ b) : GF base w v h := by
  obtain ⟨v5, v6, v7, v8, e, h5, h6, h7, h8⟩ := x
  exact ⟨v5, v6, v7, v8, e, h5.lower hb, h6.lower hb, h7.lower hb, h8.lower hb⟩
theorem GF.mk {base : Nat} {w : World} {h : Fh} {v5 v6 v7 v8 : Value} (h5 : FI kSp base w v5 h.f5) (h6 : FI kSp base w v6 h.f6) (h7 : FI (Kd.int .u64) base w v7 h.f7) (h8 : FI (Kd.int .u64) base w v8 h.f8) :
    GF base w (.agg #[.int .i64 h.f0, .int .u64 h.f1, .int .u64 h.f2, .int .u64 h.f3, .int .u64 h.f4, v5, v6, v7, v8]) h := ⟨v5, v6, v7, v8, rfl, h5, h6, h7, h8⟩
theorem GF.empty (base : Nat) (w : World) : GF base w (.agg #[.int .i64 0, .int .u64 0, .int .u64 0, .int .u64 0, .int .u64 0, .slice none 0 0, .slice none 0 0, .slice none 0 0, .slice none 0 0]) emptyF :=
  GF.mk (h := emptyF) (fun w _ => SI.nil _ w) (fun w _ => SI.nil _ w) (fun w _ => SI.nil _ w) (fun w _ => SI.nil _ w)
theorem GF.open_ {base : Nat} {w : World} {v : Value} {h : Fh} (x : GF base w v h) : ∃ A5 c5 A6 c6 A7 c7 A8 c8, v = .agg #[.int .i64 h.f0, .int .u64 h.f1, .int .u64 h.f2, .int .u64 h.f3, .int .u64 h.f4, .slice A5 h.f5.length c5, .slice A6 h.f6.length c6, .slice A7 h.f7.length c7, .slice A8 h.f8.length c8] := by
  obtain ⟨A5, c5, A6, c6, A7, c7, A8, c8, e, -⟩ := x.now.open_
  exact ⟨A5, c5, A6, c6, A7, c7, A8, c8, e⟩
end Go.Proofs.Ytgkplhdcafbfbaa.P
namespace Go.Proofs.Ytgkplhdcafbfbaa.P
open Go.RowKit Go.Proofs.YtgkplhdcafbfbaaW.PrintWords Go.Proofs.YtgkplhdcafbfbaaW.PrintLast Go.Proofs.YtgkplhdcafbfbaaW.PrintMore
theorem look_some0 : ∀ (b : List Pr), Ups (fun q : Pr => q.f0) b → ∀ p, lookPr (some0 b) p = lookPr b p
  | [], _, _ => rfl
  | x :: b, hu, p => by
    have ih := look_some0 b hu.tail p
    rw [lookPr_cons]
    unfold some0 at ih ⊢
    rw [List.filter_cons]
    by_cases c : x.f1 = 0
    · rw [if_neg (by simp [c]), ih]
      by_cases c2 : x.f0 = p
      · rw [if_pos c2, c]
        exact look_none (fun y hy => by have := hu.head y hy; omega)
      · rw [if_neg c2]
    · rw [if_pos (by simp [c]), lookPr_cons, ih]
end Go.Proofs.Ytgkplhdcafbfbaa.P
namespace Go.Proofs.Ytgkplhdcafbfbaa.P
open Go.RowKit Go.Shelf Go.Proofs.YtgkplhdcafbfbaaW.PrintWords Go.Proofs.YtgkplhdcafbfbaaW.PrintLast Go.Proofs.YtgkplhdcafbfbaaW.PrintMore
def sumIf (P : Int → Bool) : List Pr → Int
  | [] => 0
  | p :: t => (if P p.f0 = true then p.f1 else 0) + sumIf P t
def sumAt (s q : Int) (l : List Pr) : Int := sumIf (fun i => decide (placeR i s = q)) l
theorem sumIf_nonneg (P : Int → Bool) : ∀ (l : List Pr), (∀ p ∈ l, 0 ≤ p.f1) → 0 ≤ sumIf P l
  | [], _ => Int.le_refl 0
  | p :: t, h => by
    have h1 := h p (by simp)
    have h2 := sumIf_nonneg P t (fun q hq => h q (List.mem_cons_of_mem _ hq))
    rw [sumIf]
    split <;> omega
theorem sumIf_none (P : Int → Bool) : ∀ (l : List Pr), (∀ p ∈ l, P p.f0 = false) → sumIf P l = 0
  | [], _ => rfl
  | p :: t, h => by
    rw [sumIf, sumIf_none P t (fun q hq => h q (List.mem_cons_of_mem _ hq)), h p (by simp)]
    rfl
theorem lookPr_nil (p : Int) : lookPr [] p = 0 := rfl
theorem widenGo_look (s q : Int) : ∀ (l : List Pr) (cur : Pr) (r : List Pr), widenGo s cur l = some r → Ups (fun p : Pr => p.f0) l → (∀ x ∈ l, cur.f0 ≤ placeR x.f0 s) → lookPr r q = (if cur.f0 = q then cur.f1 else 0) + sumAt s q l := by
  intro l
  induction l with
  | nil =>
    intro cur r h _ _
    cases h
    rw [lookPr_cons, lookPr_nil]
    simp [sumAt, sumIf]
  | cons p t ih =>
    intro cur r h hu hle
    have hm : ∀ x ∈ t, placeR p.f0 s ≤ placeR x.f0 s := fun x hx => place_mono (Int.le_of_lt (hu.head x hx))
    have hp := hle p (by simp)
    simp only [widenGo] at h
    unfold sumAt at *
    rw [sumIf]
    split at h
    · rename_i he
      split at h
      · have := ih _ _ h hu.tail (fun x hx => hle x (List.mem_cons_of_mem _ hx))
        rw [this, he]
        simp only [decide_eq_true_eq]
        split <;> omega
      · cases h
    · rename_i he
      cases hr : widenGo s ⟨placeR p.f0 s, p.f1⟩ t with
      | none => rw [hr] at h; cases h
      | some r' =>
        rw [hr] at h
        cases h
        have := ih _ _ hr hu.tail hm
        rw [lookPr_cons, this]
        simp only [decide_eq_true_eq]
        by_cases hq : cur.f0 = q
        · rw [if_pos hq, if_pos hq, if_neg (by omega), sumIf_none _ t (fun x hx => by have := hm x hx; simp; omega)]
          omega
        · rw [if_neg hq, if_neg hq]
          omega
theorem widenW_look {s : Int} {l r : List Pr} (h : widenW s l = some r) (hu : Ups (fun p : Pr => p.f0) l) (q : Int) : lookPr r q = sumAt s q l := by
  cases l with
  | nil => cases h; rfl
  | cons p t =>
    have := widenGo_look s q t ⟨placeR p.f0 s, p.f1⟩ r h hu.tail (fun x hx => place_mono (Int.le_of_lt (hu.head x hx)))
    rw [this]
    unfold sumAt
    rw [sumIf]
    simp only [decide_eq_true_eq]
end Go.Proofs.Ytgkplhdcafbfbaa.P
namespace Go.Proofs.Ytgkplhdcafbfbaa.P
open Go.RowKit Go.Shelf Go.Proofs.YtgkplhdcafbfbaaW.PrintWords Go.Proofs.YtgkplhdcafbfbaaW.PrintLast Go.Proofs.YtgkplhdcafbfbaaW.PrintMore
theorem sumIf_some0 (P : Int → Bool) : ∀ l : List Pr, sumIf P (some0 l) = sumIf P l
  | [] => rfl
  | p :: t => by
    have ih := sumIf_some0 P t
    unfold some0 at ih ⊢
    rw [List.filter_cons]
    by_cases c : p.f1 = 0
    · rw [if_neg (by simp [c]), ih, sumIf.eq_2 P p t, c]
      split <;> omega
    · rw [if_pos (by simp [c]), sumIf, sumIf, ih]
theorem widenGo_sum (s : Int) (P : Int → Bool) : ∀ (l : List Pr) (cur : Pr) (r : List Pr), widenGo s cur l = some r → sumIf P r = (if P cur.f0 = true then cur.f1 else 0) + sumIf (fun i => P (placeR i s)) l := by
  intro l
  induction l with
  | nil => intro cur r h; cases h; simp [sumIf]
  | cons p t ih =>
    intro cur r h
    simp only [widenGo] at h
    rw [sumIf.eq_2]
    split at h
    · rename_i he
      split at h
      · rw [ih _ _ h, he]
        simp only
        split <;> omega
      · cases h
    · cases hr : widenGo s ⟨placeR p.f0 s, p.f1⟩ t with
      | none => rw [hr] at h; cases h
      | some r' =>
        rw [hr] at h
        cases h
        rw [sumIf.eq_2, ih _ _ hr]
theorem widenW_sum {s : Int} {P : Int → Bool} {l r : List Pr} (h : widenW s l = some r) : sumIf P r = sumIf (fun i => P (placeR i s)) l := by
  cases l with
  | nil => cases h; rfl
  | cons p t => rw [widenGo_sum s P t _ r h, sumIf.eq_2]
end Go.Proofs.Ytgkplhdcafbfbaa.P
namespace Go.Proofs.Ytgkplhdcafbfbaa.P
open Go.RowKit Go.Shelf Go.Proofs.YtgkplhdcafbfbaaW.PrintWords Go.Proofs.YtgkplhdcafbfbaaW.PrintLast Go.Proofs.YtgkplhdcafbfbaaW.PrintMore
theorem sumIf_append (P : Int → Bool) : ∀ (l m : List Pr), sumIf P (l ++ m) = sumIf P l + sumIf P m
  | [], m => by simp [sumIf]
  | p :: l, m => by
    rw [List.cons_append, sumIf, sumIf, sumIf_append P l m]
    omega
theorem sumIf_reverse (P : Int → Bool) : ∀ (l : List Pr), sumIf P l.reverse = sumIf P l
  | [] => rfl
  | p :: l => by
    rw [List.reverse_cons, sumIf_append, sumIf_reverse P l]
    simp only [sumIf]
    omega
theorem mem_sumIf {P : Int → Bool} : ∀ {l : List Pr} {x : Pr}, x ∈ l → P x.f0 = true → (∀ p ∈ l, 0 ≤ p.f1) → x.f1 ≤ sumIf P l
  | p :: l, x, hx, hP, hn => by
    have h0 := hn p (by simp)
    have h1 := sumIf_nonneg P l (fun q hq => hn q (List.mem_cons_of_mem _ hq))
    rw [sumIf]
    rcases List.mem_cons.1 hx with rfl | hx
    · rw [if_pos hP]; omega
    · have := mem_sumIf hx hP (fun q hq => hn q (List.mem_cons_of_mem _ hq))
      split <;> omega
theorem part (A A' E : Int → Bool) (q : Pr) (h1 : ∀ i, A i = true → A' i = true) (h2 : ∀ i, A' i = true → E i = false → A i = true ∧ i ≠ q.f0) (h3 : ∀ i, E i = true → A' i = true) (h4 : A q.f0 = true) :
    ∀ (l : List Pr), (∀ p ∈ l, 0 ≤ p.f1) → sumIf A l ≤ sumIf A' l ∧ sumIf A' l - sumIf E l ≤ sumIf A l - sumIf (fun i => decide (i = q.f0)) l
  | [], _ => by simp [sumIf]
  | p :: l, hn => by
    obtain ⟨i1, i2⟩ := part A A' E q h1 h2 h3 h4 l (fun r hr => hn r (List.mem_cons_of_mem _ hr))
    have h0 := hn p (by simp)
    simp only [sumIf, decide_eq_true_eq]
    by_cases ca : A p.f0 = true
    · have ca' := h1 _ ca
      rw [if_pos ca, if_pos ca']
      by_cases ce : E p.f0 = true
      · rw [if_pos ce]
        split <;> constructor <;> omega
      · rw [if_neg ce]
        have := (h2 _ ca' (by simpa using ce)).2
        rw [if_neg this]
        constructor <;> omega
    · have hq : p.f0 ≠ q.f0 := fun e => ca (by rw [e]; exact h4)
      rw [if_neg ca, if_neg hq]
      by_cases ca' : A' p.f0 = true
      · rw [if_pos ca']
        by_cases ce : E p.f0 = true
        · rw [if_pos ce]; constructor <;> omega
        · exact absurd (h2 _ ca' (by simpa using ce)).1 ca
      · rw [if_neg ca']
        have ce : ¬ E p.f0 = true := fun e => ca' (h3 _ e)
        rw [if_neg ce]
        constructor <;> omega
theorem sumB_seg_filter (s : Int) (f : Bk → Bool) (P : Int → Bool) (hf : ∀ p n, f ⟨s, p, n⟩ = P p) : ∀ (l : List Pr), (∀ p ∈ l, 0 ≤ p.f1) → sumB ((segW s l).filter f) = sumIf P l
  | [], _ => by simp [segW, sumB, sumIf]
  | p :: l, hn => by
    have ih := sumB_seg_filter s f P hf l (fun r hr => hn r (List.mem_cons_of_mem _ hr))
    have h0 := hn p (by simp)
    unfold segW at ih ⊢
    rw [List.filter_cons, sumIf]
    by_cases c : 0 < p.f1
    · rw [if_pos (by simpa using c), List.map_cons, List.filter_cons, hf]
      by_cases cp : P p.f0 = true
      · rw [if_pos cp, if_pos cp]
        simp only [sumB]
        rw [ih]
      · rw [if_neg cp, if_neg cp, ih]
        omega
    · rw [if_neg (by simpa using c), ih]
      split <;> omega
theorem told_filter {h : Hi} (hw : wfH h) (hc : checkR h = 0) (f : Bk → Bool) (P N : Int → Bool) (z : Bool) (h0 : ∀ p n, f ⟨0, p, n⟩ = P p) (h1 : ∀ p n, f ⟨1, p, n⟩ = N p) (h2 : ∀ n, f ⟨2, 0, n⟩ = z) :
    sumB ((toldW h).filter f) = sumIf N (openR h).2.1 + ((if z = true then h.f2 else 0) + sumIf P (openR h).1) := by
  have hr := openR_row hw
  unfold toldW
  rw [if_pos hc, List.filter_append, List.filter_append, sumB_app, sumB_app, sumB_seg_filter 1 f N h1 _ (fun p hp => (hr.2.cnt p (List.mem_reverse.1 hp)).2.1), sumB_seg_filter 0 f P h0 _ (fun p hp => (hr.1.cnt p hp).2.1), sumIf_reverse]
  congr 2
  by_cases c : h.f2 = 0
  · rw [if_pos c, c]
    cases z <;> rfl
  · rw [if_neg c, List.filter_cons, h2]
    cases z <;> simp [sumB]
theorem findK_at : ∀ (l1 l2 : List Bk) (b : Bk) (k : Int), (∀ x ∈ l1, 0 ≤ x.n) → sumB l1 < k → k ≤ sumB l1 + b.n → findK (l1 ++ b :: l2) k = some b
  | [], l2, b, k, _, h1, h2 => by
    simp only [sumB] at h1 h2
    rw [List.nil_append, findK, if_pos (by omega)]
  | x :: l1, l2, b, k, hn, h1, h2 => by
    simp only [sumB] at h1 h2
    have hs := sumB_nonneg (l := l1) (fun y hy => hn y (List.mem_cons_of_mem _ hy))
    rw [List.cons_append, findK, if_neg (by omega)]
    exact findK_at l1 l2 b (k - x.n) (fun y hy => hn y (List.mem_cons_of_mem _ hy)) (by omega) (by omega)
def nbS (h : Hi) (s p : Int) : Int := sumB ((toldW h).filter (fun x => !behindB x s p))
theorem nb_at {h : Hi} (hw : wfH h) {l1 l2 : List Bk} {b : Bk} (e : toldW h = l1 ++ b :: l2) : nbS h b.s b.p = sumB l1 + b.n := by
  unfold nbS
  rw [← takeWhile_filter, below_at hw e, sumB_snoc]
  refine (told_ord hw).imp ?_
  intro x y ho hy
  cases hx : behindB x b.s b.p with
  | false => rfl
  | true => rw [behind_mono ho hx] at hy; cases hy
theorem at_some {h : Hi} (hw : wfH h) {k : Int} {b : Bk} (ha : atR h k = (b, 0)) : checkR h = 0 ∧ 0 < k ∧ b ∈ toldW h ∧ nbS h b.s b.p - b.n < k ∧ k ≤ nbS h b.s b.p := by
  unfold atR at ha
  by_cases hc : checkR h = 0
  rotate_left
  · rw [if_neg hc] at ha; injection ha with _ e; exact absurd e hc
  rw [if_pos hc] at ha
  by_cases hk : 0 < k
  rotate_left
  · rw [if_neg hk] at ha; injection ha with _ e; cases e
  rw [if_pos hk] at ha
  cases hf : findK (toldW h) k with
  | none => rw [hf] at ha; injection ha with _ e; cases e
  | some b' =>
    rw [hf] at ha
    injection ha with e _
    subst e
    obtain ⟨l1, l2, e, h1, h2⟩ := findK_some hf hk
    have := nb_at hw e
    exact ⟨hc, hk, by rw [e]; simp, by omega, by omega⟩
theorem at_of {h : Hi} (hw : wfH h) (hc : checkR h = 0) {k : Int} (hk : 0 < k) {b : Bk} (hb : b ∈ toldW h) (h1 : nbS h b.s b.p - b.n < k) (h2 : k ≤ nbS h b.s b.p) : atR h k = (b, 0) := by
  obtain ⟨l1, l2, e⟩ := List.append_of_mem hb
  have hn := nb_at hw e
  unfold atR
  rw [if_pos hc, if_pos hk, e, findK_at l1 l2 b k (fun x hx => (toldW_u64 hw x (by rw [e]; simp [hx])).1) (by omega) (by omega)]
theorem behind_pos (p : Int) : (∀ q n, (!behindB ⟨0, q, n⟩ 0 p) = !decide (q > p)) ∧ (∀ q n, (!behindB ⟨1, q, n⟩ 0 p) = true) ∧ (∀ n, (!behindB ⟨2, 0, n⟩ 0 p) = true) := by
  refine ⟨fun q n => ?_, fun q n => ?_, fun n => ?_⟩ <;> simp [behindB, thirdI]
theorem behind_neg (p : Int) : (∀ q n, (!behindB ⟨0, q, n⟩ 1 p) = false) ∧ (∀ q n, (!behindB ⟨1, q, n⟩ 1 p) = !decide (q < p)) ∧ (∀ n, (!behindB ⟨2, 0, n⟩ 1 p) = false) := by
  refine ⟨fun q n => ?_, fun q n => ?_, fun n => ?_⟩ <;> simp [behindB, thirdI]
theorem behind_zero (p : Int) : (∀ q n, (!behindB ⟨0, q, n⟩ 2 p) = false) ∧ (∀ q n, (!behindB ⟨1, q, n⟩ 2 p) = true) ∧ (∀ n, (!behindB ⟨2, 0, n⟩ 2 p) = true) := by
  refine ⟨fun q n => ?_, fun q n => ?_, fun n => ?_⟩ <;> simp [behindB, thirdI]
theorem nb_pos {h : Hi} (hw : wfH h) (hc : checkR h = 0) (p : Int) : nbS h 0 p = sumIf (fun _ => true) (openR h).2.1 + (h.f2 + sumIf (fun q => !decide (q > p)) (openR h).1) := by
  unfold nbS
  rw [told_filter hw hc _ (fun q => !decide (q > p)) (fun _ => true) true (behind_pos p).1 (behind_pos p).2.1 (behind_pos p).2.2, if_pos rfl]
theorem nb_neg {h : Hi} (hw : wfH h) (hc : checkR h = 0) (p : Int) : nbS h 1 p = sumIf (fun q => !decide (q < p)) (openR h).2.1 := by
  unfold nbS
  rw [told_filter hw hc _ (fun _ => false) (fun q => !decide (q < p)) false (behind_neg p).1 (behind_neg p).2.1 (behind_neg p).2.2, if_neg (by decide), sumIf_none _ (openR h).1 (fun _ _ => rfl)]
  omega
theorem nb_zero {h : Hi} (hw : wfH h) (hc : checkR h = 0) (p : Int) : nbS h 2 p = sumIf (fun _ => true) (openR h).2.1 + h.f2 := by
  unfold nbS
  rw [told_filter hw hc _ (fun _ => false) (fun _ => true) true (behind_zero p).1 (behind_zero p).2.1 (behind_zero p).2.2, if_pos rfl, sumIf_none _ (openR h).1 (fun _ _ => rfl)]
  omega
theorem told_mem {h : Hi} (hc : checkR h = 0) {b : Bk} (hb : b ∈ toldW h) : (b.s = 1 ∧ ∃ q ∈ (openR h).2.1, q.f0 = b.p ∧ q.f1 = b.n ∧ 0 < q.f1) ∨ (b = ⟨2, 0, h.f2⟩ ∧ h.f2 ≠ 0) ∨ (b.s = 0 ∧ ∃ q ∈ (openR h).1, q.f0 = b.p ∧ q.f1 = b.n ∧ 0 < q.f1) := by
  unfold toldW at hb
  rw [if_pos hc] at hb
  rcases List.mem_append.1 hb with hb | hb
  · left
    unfold segW at hb
    obtain ⟨q, hq, rfl⟩ := List.mem_map.1 hb
    obtain ⟨h1, h2⟩ := List.mem_filter.1 hq
    exact ⟨rfl, q, List.mem_reverse.1 h1, rfl, rfl, by simpa using h2⟩
  · right
    rcases List.mem_append.1 hb with hb | hb
    · left
      by_cases c : h.f2 = 0
      · rw [if_pos c] at hb; simp at hb
      · rw [if_neg c] at hb; exact ⟨by simpa using hb, c⟩
    · right
      unfold segW at hb
      obtain ⟨q, hq, rfl⟩ := List.mem_map.1 hb
      obtain ⟨h1, h2⟩ := List.mem_filter.1 hq
      exact ⟨rfl, q, h1, rfl, rfl, by simpa using h2⟩
theorem seg_mem {s : Int} {l : List Pr} {q : Pr} (hq : q ∈ l) (h0 : 0 < q.f1) : (⟨s, q.f0, q.f1⟩ : Bk) ∈ segW s l := by
  unfold segW
  exact List.mem_map.2 ⟨q, List.mem_filter.2 ⟨hq, by simpa using h0⟩, rfl⟩
theorem wide_mem {s : Int} {l p : List Pr} (hr : RowOK l) (hp : widenW s l = some p) {q : Pr} (hq : q ∈ l) (h0 : 0 < q.f1) : ∃ y ∈ some0 p, y.f0 = placeR q.f0 s ∧ y.f1 = sumAt s (placeR q.f0 s) l ∧ q.f1 ≤ y.f1 := by
  obtain ⟨rp, _⟩ := widenW_ok hr hp
  have hn : ∀ p ∈ l, 0 ≤ p.f1 := fun p hp => (hr.cnt p hp).2.1
  have h1 : q.f1 ≤ sumAt s (placeR q.f0 s) l := mem_sumIf hq (by simp) hn
  have h2 := widenW_look hp hr.ups (placeR q.f0 s)
  rw [← look_some0 p rp.ups] at h2
  rcases look_or (key := fun q : Pr => q.f0) (val := fun q : Pr => q.f1) (some0 p) (placeR q.f0 s) with ⟨y, hy, he, e⟩ | ⟨-, e⟩
  · rw [lookPr, e] at h2
    exact ⟨y, hy, he, h2, by omega⟩
  · rw [lookPr, e] at h2
    omega
theorem rankScales_plain {h x : Hi} {tt k : Int} {b : Bk} (hw : wfH h) (h7 : h.f7.length ≤ 1024) (h8 : h.f8.length ≤ 1024) (hx : scaleR h tt = (x, 0)) (ha : atR h k = (b, 0)) :
    wfH x ∧ ∃ c : Bk, atR x k = (c, 0) ∧ c.s = b.s ∧ (b.s = 2 ∨ c.p = placeR b.p (h.f0 - tt)) ∧ b.n ≤ c.n := by
  obtain ⟨hc, t0, t1, p, n, hp, hn⟩ := ints_ok (h := h) (tt := tt) (by rw [hx])
  obtain ⟨x', ex, cx, ox, ⟨sx0, sx1, sx2, sx3, sx4⟩, wx, -⟩ := low_right hw hc h7 h8 t0 t1 hp hn
  rw [hx] at ex
  injection ex with ex _
  subst ex
  simp only [lowH] at sx0 sx1 sx2 sx3 sx4
  have hr := openR_row hw
  obtain ⟨-, hk, hb, hb1, hb2⟩ := at_some hw ha
  have np : ∀ p ∈ (openR h).1, 0 ≤ p.f1 := fun p hp => (hr.1.cnt p hp).2.1
  have nn : ∀ p ∈ (openR h).2.1, 0 ≤ p.f1 := fun p hp => (hr.2.cnt p hp).2.1
  have xp : ∀ P, sumIf P (openR x).1 = sumIf (fun i => P (placeR i (h.f0 - tt))) (openR h).1 := fun P => by rw [ox]; simp only; rw [sumIf_some0, widenW_sum hp]
  have xn : ∀ P, sumIf P (openR x).2.1 = sumIf (fun i => P (placeR i (h.f0 - tt))) (openR h).2.1 := fun P => by rw [ox]; simp only; rw [sumIf_some0, widenW_sum hn]
  refine ⟨wx, ?_⟩
  have tx : toldW x = segW 1 (some0 n).reverse ++ ((if x.f2 = 0 then [] else [⟨2, 0, x.f2⟩]) ++ segW 0 (some0 p)) := by
    unfold toldW
    rw [if_pos cx, ox]
  rcases told_mem hc hb with ⟨hs, q, hq, e0, e1, q0⟩ | ⟨rfl, hz⟩ | ⟨hs, q, hq, e0, e1, q0⟩
  · obtain ⟨y, hy, y0, y1, y2⟩ := wide_mem hr.2 hn hq q0
    have hm : (⟨1, y.f0, y.f1⟩ : Bk) ∈ toldW x := by rw [tx]; exact List.mem_append_left _ (seg_mem (List.mem_reverse.2 hy) (by omega))
    refine ⟨⟨1, y.f0, y.f1⟩, ?_, hs.symm, Or.inr (by rw [← e0]; exact y0), by rw [← e1]; exact y2⟩
    rw [hs, nb_neg hw hc] at hb1 hb2
    obtain ⟨i1, i2⟩ := part (fun i => !decide (i < b.p)) (fun i => !decide (placeR i (h.f0 - tt) < y.f0)) (fun i => decide (placeR i (h.f0 - tt) = placeR q.f0 (h.f0 - tt))) q
      (fun i hi => by
        simp only [Bool.not_eq_true', decide_eq_false_iff_not, Int.not_lt] at hi ⊢
        rw [y0, e0]
        exact place_mono hi)
      (fun i hi he => by
        simp only [Bool.not_eq_true', decide_eq_false_iff_not, Int.not_lt] at hi he ⊢
        rw [y0] at hi
        have hlt : q.f0 < i := by
          rcases Int.lt_or_le q.f0 i with c | c
          · exact c
          · have := place_mono (s := h.f0 - tt) c; omega
        exact ⟨by omega, by omega⟩)
      (fun i he => by
        simp only [decide_eq_true_eq, Bool.not_eq_true', decide_eq_false_iff_not, Int.not_lt] at he ⊢
        rw [y0, he]; exact Int.le_refl _)
      (by simp [e0]) (openR h).2.1 nn
    have i3 := mem_sumIf (P := fun i => decide (i = q.f0)) hq (by simp) nn
    unfold sumAt at y1
    have hnx := nb_neg wx cx y.f0
    rw [xn] at hnx
    exact at_of wx cx hk hm (by show nbS x 1 y.f0 - y.f1 < k; omega) (by show k ≤ nbS x 1 y.f0; omega)
  · have hm : (⟨2, 0, h.f2⟩ : Bk) ∈ toldW x := by
      rw [tx, sx2, if_neg hz]
      simp
    refine ⟨⟨2, 0, h.f2⟩, ?_, rfl, Or.inl rfl, Int.le_refl _⟩
    have h1 := nb_zero hw hc 0
    have h2 := nb_zero wx cx 0
    rw [xn, sx2] at h2
    simp only at hb1 hb2
    exact at_of wx cx hk hm (by show nbS x 2 0 - h.f2 < k; omega) (by show k ≤ nbS x 2 0; omega)
  · obtain ⟨y, hy, y0, y1, y2⟩ := wide_mem hr.1 hp hq q0
    have hm : (⟨0, y.f0, y.f1⟩ : Bk) ∈ toldW x := by rw [tx]; exact List.mem_append_right _ (List.mem_append_right _ (seg_mem hy (by omega)))
    refine ⟨⟨0, y.f0, y.f1⟩, ?_, hs.symm, Or.inr (by rw [← e0]; exact y0), by rw [← e1]; exact y2⟩
    rw [hs, nb_pos hw hc] at hb1 hb2
    obtain ⟨i1, i2⟩ := part (fun i => !decide (i > b.p)) (fun i => !decide (placeR i (h.f0 - tt) > y.f0)) (fun i => decide (placeR i (h.f0 - tt) = placeR q.f0 (h.f0 - tt))) q
      (fun i hi => by
        simp only [Bool.not_eq_true', decide_eq_false_iff_not, gt_iff_lt, Int.not_lt] at hi ⊢
        rw [y0, e0]
        exact place_mono hi)
      (fun i hi he => by
        simp only [Bool.not_eq_true', decide_eq_false_iff_not, gt_iff_lt, Int.not_lt] at hi he ⊢
        rw [y0] at hi
        have hlt : i < q.f0 := by
          rcases Int.lt_or_le i q.f0 with c | c
          · exact c
          · have := place_mono (s := h.f0 - tt) c; omega
        exact ⟨by omega, by omega⟩)
      (fun i he => by
        simp only [decide_eq_true_eq, Bool.not_eq_true', decide_eq_false_iff_not, gt_iff_lt, Int.not_lt] at he ⊢
        rw [y0, he]; exact Int.le_refl _)
      (by simp [e0]) (openR h).1 np
    have i3 := mem_sumIf (P := fun i => decide (i = q.f0)) hq (by simp) np
    unfold sumAt at y1
    have hnx := nb_pos wx cx y.f0
    rw [xn, xp, sx2] at hnx
    exact at_of wx cx hk hm (by show nbS x 0 y.f0 - y.f1 < k; omega) (by show k ≤ nbS x 0 y.f0; omega)
end Go.Proofs.Ytgkplhdcafbfbaa.P
namespace Go.Proofs.Ytgkplhdcafbfbaa.P
open Go.RowKit Go.Shelf Go.Proofs.YtgkplhdcafbfbaaW.PrintWords Go.Proofs.YtgkplhdcafbfbaaW.PrintLast Go.Proofs.YtgkplhdcafbfbaaW.PrintMore
def rank_Total.f (a0 a1 a2 a3 a4 : Int) (l5 l6 : List Sp) (l7 l8 : List Int) : Option (Int × Int) := if wfHi a0 a1 a2 a3 a4 l5 l6 l7 l8 then some (totalR ⟨a0, a1, a2, a3, a4, l5, l6, l7, l8⟩) else none
theorem rank_Total.calls (a0 a1 a2 a3 a4 : Int) (A5 : Option Addr) (c5 : Nat) (l5 : List Sp) (A6 : Option Addr) (c6 : Nat) (l6 : List Sp) (A7 : Option Addr) (c7 : Nat) (l7 : List Int) (A8 : Option Addr) (c8 : Nat) (l8 : List Int) (r1 r2 : Int) (w : World)
    (h5 : Kd.C kSp w A5 l5.length l5) (k5 : l5.length ≤ c5) (h6 : Kd.C kSp w A6 l6.length l6) (k6 : l6.length ≤ c6) (h7 : Kd.C (Kd.int .i64) w A7 l7.length l7) (k7 : l7.length ≤ c7) (h8 : Kd.C (Kd.int .i64) w A8 l8.length l8) (k8 : l8.length ≤ c8)
    (h : rank_Total.f a0 a1 a2 a3 a4 l5 l6 l7 l8 = some (r1, r2)) :
    Calls Try.prog 73 #[.agg #[.int .i64 a0, .int .u64 a1, .int .u64 a2, .int .u64 a3, .int .u64 a4, .slice A5 l5.length c5, .slice A6 l6.length c6, .slice A7 l7.length c7, .slice A8 l8.length c8]] w fun e w' => e = .returned (.tuple #[.int .u64 r1, .int .i64 r2]) ∧ Below w.heap.size w w' := by
  obtain ⟨hw, h1⟩ := of_ite_some h
  have := total_c ⟨a0, a1, a2, a3, a4, l5, l6, l7, l8⟩ hw w _ (HI.mk (h := ⟨a0, a1, a2, a3, a4, l5, l6, l7, l8⟩) (.of h5 k5) (.of h6 k6) (.of h7 k7) (.of h8 k8))
  rw [h1] at this
  exact this
def rank_At.f (a0 a1 a2 a3 a4 : Int) (l5 l6 : List Sp) (l7 l8 : List Int) (k : Int) : Option (Int × Int × Int × Int) := if wfHi a0 a1 a2 a3 a4 l5 l6 l7 l8 ∧ u64 k then some ((atR ⟨a0, a1, a2, a3, a4, l5, l6, l7, l8⟩ k).1.s, (atR ⟨a0, a1, a2, a3, a4, l5, l6, l7, l8⟩ k).1.p, (atR ⟨a0, a1, a2, a3, a4, l5, l6, l7, l8⟩ k).1.n, (atR ⟨a0, a1, a2, a3, a4, l5, l6, l7, l8⟩ k).2) else none
theorem rank_At.calls (a0 a1 a2 a3 a4 : Int) (A5 : Option Addr) (c5 : Nat) (l5 : List Sp) (A6 : Option Addr) (c6 : Nat) (l6 : List Sp) (A7 : Option Addr) (c7 : Nat) (l7 : List Int) (A8 : Option Addr) (c8 : Nat) (l8 : List Int) (k : Int) (r1 r2 r3 r4 : Int) (w : World)
    (h5 : Kd.C kSp w A5 l5.length l5) (k5 : l5.length ≤ c5) (h6 : Kd.C kSp w A6 l6.length l6) (k6 : l6.length ≤ c6) (h7 : Kd.C (Kd.int .i64) w A7 l7.length l7) (k7 : l7.length ≤ c7) (h8 : Kd.C (Kd.int .i64) w A8 l8.length l8) (k8 : l8.length ≤ c8)
    (h : rank_At.f a0 a1 a2 a3 a4 l5 l6 l7 l8 k = some (r1, r2, r3, r4)) :
    Calls Try.prog 34 #[.agg #[.int .i64 a0, .int .u64 a1, .int .u64 a2, .int .u64 a3, .int .u64 a4, .slice A5 l5.length c5, .slice A6 l6.length c6, .slice A7 l7.length c7, .slice A8 l8.length c8], .int .u64 k] w fun e w' => e = .returned (.tuple #[.agg #[.int .i64 r1, .int .i64 r2, .int .u64 r3], .int .i64 r4]) ∧ Below w.heap.size w w' := by
  obtain ⟨⟨hw, hk⟩, h1⟩ := of_ite_some h
  have := at_c ⟨a0, a1, a2, a3, a4, l5, l6, l7, l8⟩ hw k hk w _ (HI.mk (h := ⟨a0, a1, a2, a3, a4, l5, l6, l7, l8⟩) (.of h5 k5) (.of h6 k6) (.of h7 k7) (.of h8 k8))
  simp only [Prod.mk.injEq] at h1
  obtain ⟨rfl, rfl, rfl, rfl⟩ := h1
  exact this
end Go.Proofs.Ytgkplhdcafbfbaa.P
namespace Go.Proofs.Ytgkplhdcafbfbaa.P
open Go.RowKit Go.Proofs.YtgkplhdcafbfbaaW.PrintWords Go.Proofs.YtgkplhdcafbfbaaW.PrintLast Go.Proofs.YtgkplhdcafbfbaaW.PrintMore
attribute [local go_sem] max2_int min2_int max_two min_two max_three min_three max_four min_four
def tidepolelaw29_few.l0 : Nat → Int → List (S87) → Int → Int → Option (Bool)
 | 0, _, _, _, _ => none
 | k + 1, x3, x6, x7, x8 => if x8 < x7 then (if 0 ≤ x8 then (if x8 < (x6.length : Int) then (if ((rd_T87 x6 x8).f1) > 0 then (if (wrap64 ((wrap64 (x3 + (wrap64 (1 + (wrap64 (Int.tdiv (mn ((rd_T87 x6 x8).f1) 5000) 10)))))) + 1)) > 400 then (some false) else (tidepolelaw29_few.l0 k (wrap64 ((wrap64 (x3 + (wrap64 (1 + (wrap64 (Int.tdiv (mn ((rd_T87 x6 x8).f1) 5000) 10)))))) + 1)) x6 x7 (wrap64 (x8 + 1)))) else (if (wrap64 (x3 + 1)) > 400 then (some false) else (tidepolelaw29_few.l0 k (wrap64 (x3 + 1)) x6 x7 (wrap64 (x8 + 1))))) else (none)) else (none)) else (some true)
def tidepolelaw29_few.f (k : Nat) (l0 : List (S87)) : Option (Bool) := tidepolelaw29_few.l0 k 0 l0 (l0.length : Int) 0
theorem tidepolelaw29_few.mono_l : ∀ k, (∀ y0 y1 y2 y3, LeO (tidepolelaw29_few.l0 k y0 y1 y2 y3) (tidepolelaw29_few.l0 (k + 1) y0 y1 y2 y3))
 | 0 => fun _ _ _ _ r h => by simp [tidepolelaw29_few.l0] at h
 | k + 1 => by
  have ih0 := tidepolelaw29_few.mono_l k
  ·intro y0 y1 y2 y3
   unfold tidepolelaw29_few.l0
   repeat' first
   | (with_reducible exact ih0 _ _ _ _)
   | (with_reducible exact LeO.refl _)
   | (with_reducible exact LeO.none _)
   | (with_reducible refine LeO.ite ?_ ?_)
   | (with_reducible refine LeO.bind ?_ (fun _ => ?_))
   | exact ih0 _ _ _ _
   | exact LeO.none _
   | refine LeO.ite ?_ ?_
   | refine LeO.bind ?_ (fun _ => ?_)
set_option maxHeartbeats 8000000 in
set_option maxRecDepth 100000 in
theorem tidepolelaw29_few.calls (k : Nat) (A0 : Option Addr) (c0 : Nat) (l0 : List (S87)) (r : Bool) (w : World) (hr0 : Kd.C k87 w A0 l0.length l0) (hc0 : l0.length ≤ c0) (h : tidepolelaw29_few.f k l0 = some r) :
  Calls Try.prog 72 #[.slice A0 l0.length c0] w fun e w' => e = .returned (.bool r) ∧ Below w.heap.size w w' := by
 have hu87 := Try.underlying87
 have HR0 := Aside0.mk hr0
 have HC0 := Aside0.mk hc0
 clear hr0 hc0
 have HB := Aside0.mk (Below.refl w.heap.size w)
 have H : (tidepolelaw29_few.l0 k 0 l0 (l0.length : Int) 0) = some r := h
 clear h
 have H' := Aside0.mk H
 clear H
 go_enter Try.func72, Try.ntmps72
 go_wp2
 go_loopg [3, 8] k (fun kq v3 v8 w' => ∃ (x3_1 : Int) (x8_1 : Int), v3 = .int .i64 x3_1 ∧ v8 = .int .i64 x8_1 ∧ Aside0 (tidepolelaw29_few.l0 kq x3_1 l0 (l0.length : Int) x8_1 = some r) ∧ Aside0 (kq ≤ k) ∧ Aside0 (Below w.heap.size w w'))
 case atStart => exact ⟨(0), (0), (by first | rfl | (simp; done) | (simp [*]; done)), (by first | rfl | (simp; done) | (simp [*]; done)), H', ⟨Nat.le_refl _⟩, ⟨by repeat (first | (with_reducible first | exact HB.out | apply below_alloc | apply pw_below_drewN | apply below_drew1) | exact HB.out)⟩⟩
 case round =>
  clear H'
  obtain ⟨x3_1, x8_1, rfl, rfl, HA, HK1, HB⟩ := hrel
  cases gk with
  | zero => exact absurd HA.out (by simp [tidepolelaw29_few.l0])
  | succ k1 =>
   have H := HA.out
   clear HA
   simp only [tidepolelaw29_few.l0] at H
   by_cases c2 : x8_1 < (l0.length : Int)
   ·rw [if_pos c2] at H
    have c2b0 : decide (x8_1 < (l0.length : Int)) = true := decide_eq_true c2
    clear c2
    by_cases c3 : 0 ≤ x8_1
    ·rw [if_pos c3] at H
     have c3b0 : decide (0 ≤ x8_1) = true := decide_eq_true c3
     clear c3
     by_cases c4 : x8_1 < (l0.length : Int)
     ·rw [if_pos c4] at H
      have c4b0 : decide (x8_1 < (l0.length : Int)) = true := decide_eq_true c4
      clear c4
      by_cases c5 : ((rd_T87 l0 x8_1).f1) > 0
      ·rw [if_pos c5] at H
       have c5b0 : decide (0 < ((rd_T87 l0 x8_1).f1)) = true := decide_eq_true c5
       clear c5
       obtain ⟨ji6, hji6⟩ : ∃ j_ : Int, (mn ((rd_T87 l0 x8_1).f1) 5000) = j_ := ⟨_, rfl⟩
       replace H : (if (wrap64 ((wrap64 (x3_1 + (wrap64 (1 + (wrap64 (Int.tdiv (ji6) 10)))))) + 1)) > 400 then (some false) else (tidepolelaw29_few.l0 k1 (wrap64 ((wrap64 (x3_1 + (wrap64 (1 + (wrap64 (Int.tdiv (ji6) 10)))))) + 1)) l0 (l0.length : Int) (wrap64 (x8_1 + 1)))) = some r := by first | (rw [hji6] at H; exact H) | (simp only [hji6] at H ⊢; exact H)
       have hji6_ : (if 5000 < ((rd_T87 l0 x8_1).f1) then 5000 else ((rd_T87 l0 x8_1).f1)) = ji6 := hji6
       by_cases c7 : (wrap64 ((wrap64 (x3_1 + (wrap64 (1 + (wrap64 (Int.tdiv (ji6) 10)))))) + 1)) > 400
       ·rw [if_pos c7] at H
        have c7b0 : decide (400 < (wrap64 ((wrap64 (x3_1 + (wrap64 (1 + (wrap64 (Int.tdiv (ji6) 10)))))) + 1))) = true := decide_eq_true c7
        clear c7
        obtain rfl := Option.some.inj H
        have p101 : 0 ≤ (x8_1 : Int) := of_decide_eq_true (by first | (with_reducible assumption) | assumption)
        have q101 : x8_1 < (l0.length : Int) := of_decide_eq_true (by first | (with_reducible assumption) | assumption)
        obtain ⟨ad101, e101, hx101_0, hx101_1⟩ := at_T87 HR0.out x8_1 p101 q101
        cases e101
        replace hx101_0 := (HB.out.cell (World.block_lt_of_cell? w _ hx101_0)).trans hx101_0
        replace hx101_1 := (HB.out.cell (World.block_lt_of_cell? w _ hx101_1)).trans hx101_1
        replace p101 := eq_true p101
        replace q101 := eq_true q101
        go_wp2_with (first | ((with_reducible refine gate_dst (N := 5) rfl ?_); refine box_event ?hg (N := 5) ?hd (cs := #[.int .i64 0, .int .i64 0]) (t := 87) ?hr ?_; (case hd => rfl); (case hg => rfl); (case hr => first | (go_simp; done) | (go_simp; rfl)); intro gb102 hg w8 hbox hb; have n0_ := Aside0.mk (below_step (by repeat (first | (with_reducible first | exact HB.out | apply below_alloc | apply pw_below_drewN | apply below_drew1) | exact HB.out)) hb); have n1_ := Aside0.mk (hbox); have n2_ := Aside0.mk ((by rw [hg]; exact (below_size (by repeat (first | (with_reducible first | exact HB.out | apply below_alloc | apply pw_below_drewN | apply below_drew1) | exact HB.out))) : w.heap.size ≤ gb102)); have n3_ := Aside0.mk ((by rw [hg]; exact (below_size (by repeat (first | (with_reducible first | exact HB.out | apply below_alloc | apply pw_below_drewN | apply below_drew1) | exact HB.out))) : w.heap.size ≤ gb102)); clear HB; have HB := n0_; have BK102 := n1_; have GW102 := n2_; have GE102 := n3_; clear n0_ n1_ n2_ n3_; clear hb hbox hg; have hcz9_0 : w8.cell? ⟨gb102, 0, none⟩ = some (.int .i64 0) := (blk_cell BK102.out 0).trans rfl; have hcz9_1 : w8.cell? ⟨gb102, 1, none⟩ = some (.int .i64 0) := (blk_cell BK102.out 1).trans rfl; have hfz9_0 := blk_frozen BK102.out 0; have hfz9_1 := blk_frozen BK102.out 1))
        go_ret
        exact ⟨by first | rfl | (simp [errW_none, errW_some] <;> rfl) | (simp only [← hji6]; first | rfl | (simp [errW_none, errW_some] <;> rfl)) | (simp [*, errW_none, errW_some] <;> rfl), by repeat (first | (with_reducible first | exact HB.out | apply below_alloc | apply pw_below_drewN | apply below_drew1 | refine below_set ?_ GE102.out) | exact HB.out)⟩
       ·rw [if_neg c7] at H
        have c7b0 : decide (400 < (wrap64 ((wrap64 (x3_1 + (wrap64 (1 + (wrap64 (Int.tdiv (ji6) 10)))))) + 1))) = false := decide_eq_false c7
        clear c7
        have H' := Aside0.mk H
        clear H
        have p101 : 0 ≤ (x8_1 : Int) := of_decide_eq_true (by first | (with_reducible assumption) | assumption)
        have q101 : x8_1 < (l0.length : Int) := of_decide_eq_true (by first | (with_reducible assumption) | assumption)
        obtain ⟨ad101, e101, hx101_0, hx101_1⟩ := at_T87 HR0.out x8_1 p101 q101
        cases e101
        replace hx101_0 := (HB.out.cell (World.block_lt_of_cell? w _ hx101_0)).trans hx101_0
        replace hx101_1 := (HB.out.cell (World.block_lt_of_cell? w _ hx101_1)).trans hx101_1
        replace p101 := eq_true p101
        replace q101 := eq_true q101
        go_wp2_with (first | ((with_reducible refine gate_dst (N := 5) rfl ?_); refine box_event ?hg (N := 5) ?hd (cs := #[.int .i64 0, .int .i64 0]) (t := 87) ?hr ?_; (case hd => rfl); (case hg => rfl); (case hr => first | (go_simp; done) | (go_simp; rfl)); intro gb102 hg w10 hbox hb; have n0_ := Aside0.mk (below_step (by repeat (first | (with_reducible first | exact HB.out | apply below_alloc | apply pw_below_drewN | apply below_drew1) | exact HB.out)) hb); have n1_ := Aside0.mk (hbox); have n2_ := Aside0.mk ((by rw [hg]; exact (below_size (by repeat (first | (with_reducible first | exact HB.out | apply below_alloc | apply pw_below_drewN | apply below_drew1) | exact HB.out))) : w.heap.size ≤ gb102)); have n3_ := Aside0.mk ((by rw [hg]; exact (below_size (by repeat (first | (with_reducible first | exact HB.out | apply below_alloc | apply pw_below_drewN | apply below_drew1) | exact HB.out))) : w.heap.size ≤ gb102)); clear HB; have HB := n0_; have BK102 := n1_; have GW102 := n2_; have GE102 := n3_; clear n0_ n1_ n2_ n3_; clear hb hbox hg; have hcz11_0 : w10.cell? ⟨gb102, 0, none⟩ = some (.int .i64 0) := (blk_cell BK102.out 0).trans rfl; have hcz11_1 : w10.cell? ⟨gb102, 1, none⟩ = some (.int .i64 0) := (blk_cell BK102.out 1).trans rfl; have hfz11_0 := blk_frozen BK102.out 0; have hfz11_1 := blk_frozen BK102.out 1))
        go_roundg k1
        case measure => have := HK1.out; omega
        case rel => exact ⟨(wrap64 ((wrap64 (x3_1 + (wrap64 (1 + (wrap64 (Int.tdiv (ji6) 10)))))) + 1)), (wrap64 (x8_1 + 1)), (by first | rfl | (simp; done) | (simp only [← hji6] <;> (first | rfl | simp)) | (simp [*]; done)), (by first | rfl | (simp; done) | (simp [*]; done)), H', ⟨by have := HK1.out; omega⟩, ⟨by repeat (first | (with_reducible first | exact HB.out | apply below_alloc | apply pw_below_drewN | apply below_drew1 | refine below_set ?_ GE102.out) | exact HB.out)⟩⟩
      ·rw [if_neg c5] at H
       have c5b0 : decide (0 < ((rd_T87 l0 x8_1).f1)) = false := decide_eq_false c5
       clear c5
       by_cases c12 : (wrap64 (x3_1 + 1)) > 400
       ·rw [if_pos c12] at H
        have c12b0 : decide (400 < (wrap64 (x3_1 + 1))) = true := decide_eq_true c12
        clear c12
        obtain rfl := Option.some.inj H
        have p101 : 0 ≤ (x8_1 : Int) := of_decide_eq_true (by first | (with_reducible assumption) | assumption)
        have q101 : x8_1 < (l0.length : Int) := of_decide_eq_true (by first | (with_reducible assumption) | assumption)
        obtain ⟨ad101, e101, hx101_0, hx101_1⟩ := at_T87 HR0.out x8_1 p101 q101
        cases e101
        replace hx101_0 := (HB.out.cell (World.block_lt_of_cell? w _ hx101_0)).trans hx101_0
        replace hx101_1 := (HB.out.cell (World.block_lt_of_cell? w _ hx101_1)).trans hx101_1
        replace p101 := eq_true p101
        replace q101 := eq_true q101
        go_wp2_with (first | ((with_reducible refine gate_dst (N := 5) rfl ?_); refine box_event ?hg (N := 5) ?hd (cs := #[.int .i64 0, .int .i64 0]) (t := 87) ?hr ?_; (case hd => rfl); (case hg => rfl); (case hr => first | (go_simp; done) | (go_simp; rfl)); intro gb102 hg w13 hbox hb; have n0_ := Aside0.mk (below_step (by repeat (first | (with_reducible first | exact HB.out | apply below_alloc | apply pw_below_drewN | apply below_drew1) | exact HB.out)) hb); have n1_ := Aside0.mk (hbox); have n2_ := Aside0.mk ((by rw [hg]; exact (below_size (by repeat (first | (with_reducible first | exact HB.out | apply below_alloc | apply pw_below_drewN | apply below_drew1) | exact HB.out))) : w.heap.size ≤ gb102)); have n3_ := Aside0.mk ((by rw [hg]; exact (below_size (by repeat (first | (with_reducible first | exact HB.out | apply below_alloc | apply pw_below_drewN | apply below_drew1) | exact HB.out))) : w.heap.size ≤ gb102)); clear HB; have HB := n0_; have BK102 := n1_; have GW102 := n2_; have GE102 := n3_; clear n0_ n1_ n2_ n3_; clear hb hbox hg; have hcz14_0 : w13.cell? ⟨gb102, 0, none⟩ = some (.int .i64 0) := (blk_cell BK102.out 0).trans rfl; have hcz14_1 : w13.cell? ⟨gb102, 1, none⟩ = some (.int .i64 0) := (blk_cell BK102.out 1).trans rfl; have hfz14_0 := blk_frozen BK102.out 0; have hfz14_1 := blk_frozen BK102.out 1))
        go_ret
        exact ⟨by first | rfl | (simp [errW_none, errW_some] <;> rfl) | (simp [*, errW_none, errW_some] <;> rfl), by repeat (first | (with_reducible first | exact HB.out | apply below_alloc | apply pw_below_drewN | apply below_drew1 | refine below_set ?_ GE102.out) | exact HB.out)⟩
       ·rw [if_neg c12] at H
        have c12b0 : decide (400 < (wrap64 (x3_1 + 1))) = false := decide_eq_false c12
        clear c12
        have H' := Aside0.mk H
        clear H
        have p101 : 0 ≤ (x8_1 : Int) := of_decide_eq_true (by first | (with_reducible assumption) | assumption)
        have q101 : x8_1 < (l0.length : Int) := of_decide_eq_true (by first | (with_reducible assumption) | assumption)
        obtain ⟨ad101, e101, hx101_0, hx101_1⟩ := at_T87 HR0.out x8_1 p101 q101
        cases e101
        replace hx101_0 := (HB.out.cell (World.block_lt_of_cell? w _ hx101_0)).trans hx101_0
        replace hx101_1 := (HB.out.cell (World.block_lt_of_cell? w _ hx101_1)).trans hx101_1
        replace p101 := eq_true p101
        replace q101 := eq_true q101
        go_wp2_with (first | ((with_reducible refine gate_dst (N := 5) rfl ?_); refine box_event ?hg (N := 5) ?hd (cs := #[.int .i64 0, .int .i64 0]) (t := 87) ?hr ?_; (case hd => rfl); (case hg => rfl); (case hr => first | (go_simp; done) | (go_simp; rfl)); intro gb102 hg w15 hbox hb; have n0_ := Aside0.mk (below_step (by repeat (first | (with_reducible first | exact HB.out | apply below_alloc | apply pw_below_drewN | apply below_drew1) | exact HB.out)) hb); have n1_ := Aside0.mk (hbox); have n2_ := Aside0.mk ((by rw [hg]; exact (below_size (by repeat (first | (with_reducible first | exact HB.out | apply below_alloc | apply pw_below_drewN | apply below_drew1) | exact HB.out))) : w.heap.size ≤ gb102)); have n3_ := Aside0.mk ((by rw [hg]; exact (below_size (by repeat (first | (with_reducible first | exact HB.out | apply below_alloc | apply pw_below_drewN | apply below_drew1) | exact HB.out))) : w.heap.size ≤ gb102)); clear HB; have HB := n0_; have BK102 := n1_; have GW102 := n2_; have GE102 := n3_; clear n0_ n1_ n2_ n3_; clear hb hbox hg; have hcz16_0 : w15.cell? ⟨gb102, 0, none⟩ = some (.int .i64 0) := (blk_cell BK102.out 0).trans rfl; have hcz16_1 : w15.cell? ⟨gb102, 1, none⟩ = some (.int .i64 0) := (blk_cell BK102.out 1).trans rfl; have hfz16_0 := blk_frozen BK102.out 0; have hfz16_1 := blk_frozen BK102.out 1))
        go_roundg k1
        case measure => have := HK1.out; omega
        case rel => exact ⟨(wrap64 (x3_1 + 1)), (wrap64 (x8_1 + 1)), (by first | rfl | (simp; done) | (simp [*]; done)), (by first | rfl | (simp; done) | (simp [*]; done)), H', ⟨by have := HK1.out; omega⟩, ⟨by repeat (first | (with_reducible first | exact HB.out | apply below_alloc | apply pw_below_drewN | apply below_drew1 | refine below_set ?_ GE102.out) | exact HB.out)⟩⟩
     ·rw [if_neg c4] at H
      exact absurd H (by simp)
    ·rw [if_neg c3] at H
     exact absurd H (by simp)
   ·rw [if_neg c2] at H
    have c2b0 : decide (x8_1 < (l0.length : Int)) = false := decide_eq_false c2
    clear c2
    obtain rfl := Option.some.inj H
    go_wp2
    go_ret
    exact ⟨by first | rfl | (simp [errW_none, errW_some] <;> rfl) | (simp [*, errW_none, errW_some] <;> rfl), by repeat (first | (with_reducible first | exact HB.out | apply below_alloc | apply pw_below_drewN | apply below_drew1) | exact HB.out)⟩
def tidepolelaw29_small.f (k : Nat) (a0_0 : Int) (a0_1 : Int) (a0_2 : Int) (a0_3 : Int) (a0_4 : Int) (l0_5 : List (S87)) (l0_6 : List (S87)) (l0_7 : List Int) (l0_8 : List Int) : Option (Bool) := (tidepolelaw29_few.f k l0_5).bind fun t102 => (if t102 = true then ((tidepolelaw29_few.f k l0_6).bind fun t103 => (if t103 = true then (if (l0_7.length : Int) ≤ 300 then (some (decide ((l0_8.length : Int) ≤ 300))) else (some false)) else (some false))) else (some false))
set_option maxHeartbeats 8000000 in
set_option maxRecDepth 100000 in
theorem tidepolelaw29_small.calls (k : Nat) (a0_0 : Int) (a0_1 : Int) (a0_2 : Int) (a0_3 : Int) (a0_4 : Int) (A0_5 : Option Addr) (c0_5 : Nat) (l0_5 : List (S87)) (A0_6 : Option Addr) (c0_6 : Nat) (l0_6 : List (S87)) (A0_7 : Option Addr) (c0_7 : Nat) (l0_7 : List Int) (A0_8 : Option Addr) (c0_8 : Nat) (l0_8 : List Int) (r : Bool) (w : World) (hr0_5 : Kd.C k87 w A0_5 l0_5.length l0_5) (hc0_5 : l0_5.length ≤ c0_5) (hr0_6 : Kd.C k87 w A0_6 l0_6.length l0_6) (hc0_6 : l0_6.length ≤ c0_6) (hr0_7 : Kd.C (Kd.int .i64) w A0_7 l0_7.length l0_7) (hc0_7 : l0_7.length ≤ c0_7) (hr0_8 : Kd.C (Kd.int .i64) w A0_8 l0_8.length l0_8) (hc0_8 : l0_8.length ≤ c0_8) (h : tidepolelaw29_small.f k a0_0 a0_1 a0_2 a0_3 a0_4 l0_5 l0_6 l0_7 l0_8 = some r) :
  Calls Try.prog 32 #[.agg #[.int .i64 a0_0, .int .u64 a0_1, .int .u64 a0_2, .int .u64 a0_3, .int .u64 a0_4, .slice A0_5 l0_5.length c0_5, .slice A0_6 l0_6.length c0_6, .slice A0_7 l0_7.length c0_7, .slice A0_8 l0_8.length c0_8]] w fun e w' => e = .returned (.bool r) ∧ Below w.heap.size w w' := by
 have hu30 := Try.underlying30
 have HR0_5 := Aside0.mk hr0_5
 have HC0_5 := Aside0.mk hc0_5
 clear hr0_5 hc0_5
 have HR0_6 := Aside0.mk hr0_6
 have HC0_6 := Aside0.mk hc0_6
 clear hr0_6 hc0_6
 have HR0_7 := Aside0.mk hr0_7
 have HC0_7 := Aside0.mk hc0_7
 clear hr0_7 hc0_7
 have HR0_8 := Aside0.mk hr0_8
 have HC0_8 := Aside0.mk hc0_8
 clear hr0_8 hc0_8
 have HB := Aside0.mk (Below.refl w.heap.size w)
 have H : ((tidepolelaw29_few.f k l0_5).bind fun t102 => (if t102 = true then ((tidepolelaw29_few.f k l0_6).bind fun t103 => (if t103 = true then (if (l0_7.length : Int) ≤ 300 then (some (decide ((l0_8.length : Int) ≤ 300))) else (some false)) else (some false))) else (some false))) = some r := h
 clear h
 replace H := Option.bind_eq_some_iff.mp H
 obtain ⟨t102, A20, H⟩ := H
 replace H : (if t102 = true then ((tidepolelaw29_few.f k l0_6).bind fun t103 => (if t103 = true then (if (l0_7.length : Int) ≤ 300 then (some (decide ((l0_8.length : Int) ≤ 300))) else (some false)) else (some false))) else (some false)) = some r := H
 have A2 := Aside0.mk A20
 clear A20
 by_cases c3 : t102 = true
 ·subst c3
  have H1 : ((tidepolelaw29_few.f k l0_6).bind fun t103 => (if t103 = true then (if (l0_7.length : Int) ≤ 300 then (some (decide ((l0_8.length : Int) ≤ 300))) else (some false)) else (some false))) = some r := by rw [if_pos rfl] at H; exact H
  clear H
  have H := H1
  clear H1
  replace H := Option.bind_eq_some_iff.mp H
  obtain ⟨t103, A40, H⟩ := H
  replace H : (if t103 = true then (if (l0_7.length : Int) ≤ 300 then (some (decide ((l0_8.length : Int) ≤ 300))) else (some false)) else (some false)) = some r := H
  have A4 := Aside0.mk A40
  clear A40
  by_cases c5 : t103 = true
  ·subst c5
   have H1 : (if (l0_7.length : Int) ≤ 300 then (some (decide ((l0_8.length : Int) ≤ 300))) else (some false)) = some r := by rw [if_pos rfl] at H; exact H
   clear H
   have H := H1
   clear H1
   by_cases c6 : (l0_7.length : Int) ≤ 300
   ·rw [if_pos c6] at H
    have c6b0 : decide ((l0_7.length : Int) ≤ 300) = true := decide_eq_true c6
    have c6b1 : decide (l0_7.length ≤ 300) = true := decide_eq_true (by omega)
    clear c6
    obtain rfl := Option.some.inj H
    go_enter Try.func32, Try.ntmps32
    go_wp2_with (first | ((with_reducible refine gate_dst (N := 1) rfl ?_); (try (refine gate_guard (by rfl) ?_; dsimp only)); refine box_event ?hg (N := 1) ?hd (cs := #[.int .i64 a0_0, .int .u64 a0_1, .int .u64 a0_2, .int .u64 a0_3, .int .u64 a0_4, .slice A0_5 l0_5.length c0_5, .slice A0_6 l0_6.length c0_6, .slice A0_7 l0_7.length c0_7, .slice A0_8 l0_8.length c0_8]) (t := 30) ?hr ?_; (case hd => rfl); (case hg => rfl); (case hr => first | (go_simp; done) | (go_simp; rfl)); intro gb101 hg w7 hbox hb; have n0_ := Aside0.mk (below_step (by repeat (first | (with_reducible first | exact HB.out | apply below_alloc | apply pw_below_drewN | apply below_drew1) | exact HB.out)) hb); have n1_ := Aside0.mk (hbox); have n2_ := Aside0.mk ((by rw [hg]; exact (below_size (by repeat (first | (with_reducible first | exact HB.out | apply below_alloc | apply pw_below_drewN | apply below_drew1) | exact HB.out))) : w.heap.size ≤ gb101)); have n3_ := Aside0.mk ((by rw [hg]; exact (below_size (by repeat (first | (with_reducible first | exact HB.out | apply below_alloc | apply pw_below_drewN | apply below_drew1) | exact HB.out))) : w.heap.size ≤ gb101)); clear HB; have HB := n0_; have BK101 := n1_; have GW101 := n2_; have GE101 := n3_; clear n0_ n1_ n2_ n3_; clear hb hbox hg; have hcz8_0 : w7.cell? ⟨gb101, 0, none⟩ = some (.int .i64 a0_0) := (blk_cell BK101.out 0).trans rfl; have hcz8_1 : w7.cell? ⟨gb101, 1, none⟩ = some (.int .u64 a0_1) := (blk_cell BK101.out 1).trans rfl; have hcz8_2 : w7.cell? ⟨gb101, 2, none⟩ = some (.int .u64 a0_2) := (blk_cell BK101.out 2).trans rfl; have hcz8_3 : w7.cell? ⟨gb101, 3, none⟩ = some (.int .u64 a0_3) := (blk_cell BK101.out 3).trans rfl; have hcz8_4 : w7.cell? ⟨gb101, 4, none⟩ = some (.int .u64 a0_4) := (blk_cell BK101.out 4).trans rfl; have hcz8_5 : w7.cell? ⟨gb101, 5, none⟩ = some (.slice A0_5 l0_5.length c0_5) := (blk_cell BK101.out 5).trans rfl; have hcz8_6 : w7.cell? ⟨gb101, 6, none⟩ = some (.slice A0_6 l0_6.length c0_6) := (blk_cell BK101.out 6).trans rfl; have hcz8_7 : w7.cell? ⟨gb101, 7, none⟩ = some (.slice A0_7 l0_7.length c0_7) := (blk_cell BK101.out 7).trans rfl; have hcz8_8 : w7.cell? ⟨gb101, 8, none⟩ = some (.slice A0_8 l0_8.length c0_8) := (blk_cell BK101.out 8).trans rfl; have hfz8_0 := blk_frozen BK101.out 0; have hfz8_1 := blk_frozen BK101.out 1; have hfz8_2 := blk_frozen BK101.out 2; have hfz8_3 := blk_frozen BK101.out 3; have hfz8_4 := blk_frozen BK101.out 4; have hfz8_5 := blk_frozen BK101.out 5; have hfz8_6 := blk_frozen BK101.out 6; have hfz8_7 := blk_frozen BK101.out 7; have hfz8_8 := blk_frozen BK101.out 8) | ((with_reducible refine gate_callee (f := 72) rfl ?_); refine goesL_ (some 5) rfl rfl Try.func72 (by kernel_rfl) rfl #[.slice A0_5 l0_5.length c0_5] rfl (by (try simp only [List.map_toArray, List.map_cons, List.map_nil]); first | done | rfl | (simp only [List.length_drop, List.length_take]; rfl)) ?_; (with_reducible refine (tidepolelaw29_few.calls k _ _ l0_5 true _ ?side1 ?side2 A2.out).mono ?_); (case side1 => repeat (first | exact (Kd.C_below HR0_5.out HB.out) | (with_reducible refine Kd.C_alloc ?_ _) | (with_reducible refine Kd.C_drewN ?_ _) | (with_reducible refine Kd.C_drew ?_))); (case side2 => exact HC0_5.out); rintro e w9 ⟨rfl, hb⟩; refine ⟨_, rfl, ?_⟩; have n0_ := Aside0.mk (blk_below (g := gb101) (o := .cells #[.int .i64 a0_0, .int .u64 a0_1, .int .u64 a0_2, .int .u64 a0_3, .int .u64 a0_4, .slice A0_5 l0_5.length c0_5, .slice A0_6 l0_6.length c0_6, .slice A0_7 l0_7.length c0_7, .slice A0_8 l0_8.length c0_8] 30 (0, 0)) (by (with_reducible repeat (first | refine blk_drewN ?_ _ | refine blk_drew ?_ | refine blk_alloc ?_ _)); exact BK101.out) hb); have n1_ := Aside0.mk (below_step (by repeat (first | (with_reducible first | exact HB.out | apply below_alloc | apply pw_below_drewN | apply below_drew1 | refine below_set ?_ GE101.out) | exact HB.out)) hb); clear BK101; clear HB; have BK101 := n0_; have HB := n1_; clear n0_ n1_; (try clear hb); (try clear hb2); (try clear hk); (try clear hi); clear A2; have hcz10_0 : w9.cell? ⟨gb101, 0, none⟩ = some (.int .i64 a0_0) := (blk_cell BK101.out 0).trans rfl; have hcz10_1 : w9.cell? ⟨gb101, 1, none⟩ = some (.int .u64 a0_1) := (blk_cell BK101.out 1).trans rfl; have hcz10_2 : w9.cell? ⟨gb101, 2, none⟩ = some (.int .u64 a0_2) := (blk_cell BK101.out 2).trans rfl; have hcz10_3 : w9.cell? ⟨gb101, 3, none⟩ = some (.int .u64 a0_3) := (blk_cell BK101.out 3).trans rfl; have hcz10_4 : w9.cell? ⟨gb101, 4, none⟩ = some (.int .u64 a0_4) := (blk_cell BK101.out 4).trans rfl; have hcz10_5 : w9.cell? ⟨gb101, 5, none⟩ = some (.slice A0_5 l0_5.length c0_5) := (blk_cell BK101.out 5).trans rfl; have hcz10_6 : w9.cell? ⟨gb101, 6, none⟩ = some (.slice A0_6 l0_6.length c0_6) := (blk_cell BK101.out 6).trans rfl; have hcz10_7 : w9.cell? ⟨gb101, 7, none⟩ = some (.slice A0_7 l0_7.length c0_7) := (blk_cell BK101.out 7).trans rfl; have hcz10_8 : w9.cell? ⟨gb101, 8, none⟩ = some (.slice A0_8 l0_8.length c0_8) := (blk_cell BK101.out 8).trans rfl; have hfz10_0 := blk_frozen BK101.out 0; have hfz10_1 := blk_frozen BK101.out 1; have hfz10_2 := blk_frozen BK101.out 2; have hfz10_3 := blk_frozen BK101.out 3; have hfz10_4 := blk_frozen BK101.out 4; have hfz10_5 := blk_frozen BK101.out 5; have hfz10_6 := blk_frozen BK101.out 6; have hfz10_7 := blk_frozen BK101.out 7; have hfz10_8 := blk_frozen BK101.out 8) | (go_at_call 72; (with_reducible refine (tidepolelaw29_few.calls k _ _ l0_6 true _ ?side1 ?side2 A4.out).mono ?_); (case side1 => repeat (first | exact (Kd.C_below HR0_6.out HB.out) | (with_reducible refine Kd.C_alloc ?_ _) | (with_reducible refine Kd.C_drewN ?_ _) | (with_reducible refine Kd.C_drew ?_))); (case side2 => exact HC0_6.out); rintro e w11 ⟨rfl, hb⟩; have n0_ := Aside0.mk (blk_below (g := gb101) (o := .cells #[.int .i64 a0_0, .int .u64 a0_1, .int .u64 a0_2, .int .u64 a0_3, .int .u64 a0_4, .slice A0_5 l0_5.length c0_5, .slice A0_6 l0_6.length c0_6, .slice A0_7 l0_7.length c0_7, .slice A0_8 l0_8.length c0_8] 30 (0, 0)) (by (with_reducible repeat (first | refine blk_drewN ?_ _ | refine blk_drew ?_ | refine blk_alloc ?_ _)); exact BK101.out) hb); have n1_ := Aside0.mk (below_step (by repeat (first | (with_reducible first | exact HB.out | apply below_alloc | apply pw_below_drewN | apply below_drew1 | refine below_set ?_ GE101.out) | exact HB.out)) hb); clear BK101; clear HB; have BK101 := n0_; have HB := n1_; clear n0_ n1_; (try clear hb); (try clear hb2); (try clear hk); (try clear hi); clear A4; have hcz12_0 : w11.cell? ⟨gb101, 0, none⟩ = some (.int .i64 a0_0) := (blk_cell BK101.out 0).trans rfl; have hcz12_1 : w11.cell? ⟨gb101, 1, none⟩ = some (.int .u64 a0_1) := (blk_cell BK101.out 1).trans rfl; have hcz12_2 : w11.cell? ⟨gb101, 2, none⟩ = some (.int .u64 a0_2) := (blk_cell BK101.out 2).trans rfl; have hcz12_3 : w11.cell? ⟨gb101, 3, none⟩ = some (.int .u64 a0_3) := (blk_cell BK101.out 3).trans rfl; have hcz12_4 : w11.cell? ⟨gb101, 4, none⟩ = some (.int .u64 a0_4) := (blk_cell BK101.out 4).trans rfl; have hcz12_5 : w11.cell? ⟨gb101, 5, none⟩ = some (.slice A0_5 l0_5.length c0_5) := (blk_cell BK101.out 5).trans rfl; have hcz12_6 : w11.cell? ⟨gb101, 6, none⟩ = some (.slice A0_6 l0_6.length c0_6) := (blk_cell BK101.out 6).trans rfl; have hcz12_7 : w11.cell? ⟨gb101, 7, none⟩ = some (.slice A0_7 l0_7.length c0_7) := (blk_cell BK101.out 7).trans rfl; have hcz12_8 : w11.cell? ⟨gb101, 8, none⟩ = some (.slice A0_8 l0_8.length c0_8) := (blk_cell BK101.out 8).trans rfl; have hfz12_0 := blk_frozen BK101.out 0; have hfz12_1 := blk_frozen BK101.out 1; have hfz12_2 := blk_frozen BK101.out 2; have hfz12_3 := blk_frozen BK101.out 3; have hfz12_4 := blk_frozen BK101.out 4; have hfz12_5 := blk_frozen BK101.out 5; have hfz12_6 := blk_frozen BK101.out 6; have hfz12_7 := blk_frozen BK101.out 7; have hfz12_8 := blk_frozen BK101.out 8))
    go_ret
    exact ⟨by first | rfl | (simp [errW_none, errW_some] <;> rfl) | (simp [*, errW_none, errW_some] <;> rfl), by repeat (first | (with_reducible first | exact HB.out | apply below_alloc | apply pw_below_drewN | apply below_drew1 | refine below_set ?_ GE101.out) | exact HB.out)⟩
   ·rw [if_neg c6] at H
    have c6b0 : decide ((l0_7.length : Int) ≤ 300) = false := decide_eq_false c6
    have c6b1 : decide (l0_7.length ≤ 300) = false := decide_eq_false (by omega)
    clear c6
    obtain rfl := Option.some.inj H
    go_enter Try.func32, Try.ntmps32
    go_wp2_with (first | ((with_reducible refine gate_dst (N := 1) rfl ?_); (try (refine gate_guard (by rfl) ?_; dsimp only)); refine box_event ?hg (N := 1) ?hd (cs := #[.int .i64 a0_0, .int .u64 a0_1, .int .u64 a0_2, .int .u64 a0_3, .int .u64 a0_4, .slice A0_5 l0_5.length c0_5, .slice A0_6 l0_6.length c0_6, .slice A0_7 l0_7.length c0_7, .slice A0_8 l0_8.length c0_8]) (t := 30) ?hr ?_; (case hd => rfl); (case hg => rfl); (case hr => first | (go_simp; done) | (go_simp; rfl)); intro gb101 hg w13 hbox hb; have n0_ := Aside0.mk (below_step (by repeat (first | (with_reducible first | exact HB.out | apply below_alloc | apply pw_below_drewN | apply below_drew1) | exact HB.out)) hb); have n1_ := Aside0.mk (hbox); have n2_ := Aside0.mk ((by rw [hg]; exact (below_size (by repeat (first | (with_reducible first | exact HB.out | apply below_alloc | apply pw_below_drewN | apply below_drew1) | exact HB.out))) : w.heap.size ≤ gb101)); have n3_ := Aside0.mk ((by rw [hg]; exact (below_size (by repeat (first | (with_reducible first | exact HB.out | apply below_alloc | apply pw_below_drewN | apply below_drew1) | exact HB.out))) : w.heap.size ≤ gb101)); clear HB; have HB := n0_; have BK101 := n1_; have GW101 := n2_; have GE101 := n3_; clear n0_ n1_ n2_ n3_; clear hb hbox hg; have hcz14_0 : w13.cell? ⟨gb101, 0, none⟩ = some (.int .i64 a0_0) := (blk_cell BK101.out 0).trans rfl; have hcz14_1 : w13.cell? ⟨gb101, 1, none⟩ = some (.int .u64 a0_1) := (blk_cell BK101.out 1).trans rfl; have hcz14_2 : w13.cell? ⟨gb101, 2, none⟩ = some (.int .u64 a0_2) := (blk_cell BK101.out 2).trans rfl; have hcz14_3 : w13.cell? ⟨gb101, 3, none⟩ = some (.int .u64 a0_3) := (blk_cell BK101.out 3).trans rfl; have hcz14_4 : w13.cell? ⟨gb101, 4, none⟩ = some (.int .u64 a0_4) := (blk_cell BK101.out 4).trans rfl; have hcz14_5 : w13.cell? ⟨gb101, 5, none⟩ = some (.slice A0_5 l0_5.length c0_5) := (blk_cell BK101.out 5).trans rfl; have hcz14_6 : w13.cell? ⟨gb101, 6, none⟩ = some (.slice A0_6 l0_6.length c0_6) := (blk_cell BK101.out 6).trans rfl; have hcz14_7 : w13.cell? ⟨gb101, 7, none⟩ = some (.slice A0_7 l0_7.length c0_7) := (blk_cell BK101.out 7).trans rfl; have hcz14_8 : w13.cell? ⟨gb101, 8, none⟩ = some (.slice A0_8 l0_8.length c0_8) := (blk_cell BK101.out 8).trans rfl; have hfz14_0 := blk_frozen BK101.out 0; have hfz14_1 := blk_frozen BK101.out 1; have hfz14_2 := blk_frozen BK101.out 2; have hfz14_3 := blk_frozen BK101.out 3; have hfz14_4 := blk_frozen BK101.out 4; have hfz14_5 := blk_frozen BK101.out 5; have hfz14_6 := blk_frozen BK101.out 6; have hfz14_7 := blk_frozen BK101.out 7; have hfz14_8 := blk_frozen BK101.out 8) | ((with_reducible refine gate_callee (f := 72) rfl ?_); refine goesL_ (some 5) rfl rfl Try.func72 (by kernel_rfl) rfl #[.slice A0_5 l0_5.length c0_5] rfl (by (try simp only [List.map_toArray, List.map_cons, List.map_nil]); first | done | rfl | (simp only [List.length_drop, List.length_take]; rfl)) ?_; (with_reducible refine (tidepolelaw29_few.calls k _ _ l0_5 true _ ?side1 ?side2 A2.out).mono ?_); (case side1 => repeat (first | exact (Kd.C_below HR0_5.out HB.out) | (with_reducible refine Kd.C_alloc ?_ _) | (with_reducible refine Kd.C_drewN ?_ _) | (with_reducible refine Kd.C_drew ?_))); (case side2 => exact HC0_5.out); rintro e w15 ⟨rfl, hb⟩; refine ⟨_, rfl, ?_⟩; have n0_ := Aside0.mk (blk_below (g := gb101) (o := .cells #[.int .i64 a0_0, .int .u64 a0_1, .int .u64 a0_2, .int .u64 a0_3, .int .u64 a0_4, .slice A0_5 l0_5.length c0_5, .slice A0_6 l0_6.length c0_6, .slice A0_7 l0_7.length c0_7, .slice A0_8 l0_8.length c0_8] 30 (0, 0)) (by (with_reducible repeat (first | refine blk_drewN ?_ _ | refine blk_drew ?_ | refine blk_alloc ?_ _)); exact BK101.out) hb); have n1_ := Aside0.mk (below_step (by repeat (first | (with_reducible first | exact HB.out | apply below_alloc | apply pw_below_drewN | apply below_drew1 | refine below_set ?_ GE101.out) | exact HB.out)) hb); clear BK101; clear HB; have BK101 := n0_; have HB := n1_; clear n0_ n1_; (try clear hb); (try clear hb2); (try clear hk); (try clear hi); clear A2; have hcz16_0 : w15.cell? ⟨gb101, 0, none⟩ = some (.int .i64 a0_0) := (blk_cell BK101.out 0).trans rfl; have hcz16_1 : w15.cell? ⟨gb101, 1, none⟩ = some (.int .u64 a0_1) := (blk_cell BK101.out 1).trans rfl; have hcz16_2 : w15.cell? ⟨gb101, 2, none⟩ = some (.int .u64 a0_2) := (blk_cell BK101.out 2).trans rfl; have hcz16_3 : w15.cell? ⟨gb101, 3, none⟩ = some (.int .u64 a0_3) := (blk_cell BK101.out 3).trans rfl; have hcz16_4 : w15.cell? ⟨gb101, 4, none⟩ = some (.int .u64 a0_4) := (blk_cell BK101.out 4).trans rfl; have hcz16_5 : w15.cell? ⟨gb101, 5, none⟩ = some (.slice A0_5 l0_5.length c0_5) := (blk_cell BK101.out 5).trans rfl; have hcz16_6 : w15.cell? ⟨gb101, 6, none⟩ = some (.slice A0_6 l0_6.length c0_6) := (blk_cell BK101.out 6).trans rfl; have hcz16_7 : w15.cell? ⟨gb101, 7, none⟩ = some (.slice A0_7 l0_7.length c0_7) := (blk_cell BK101.out 7).trans rfl; have hcz16_8 : w15.cell? ⟨gb101, 8, none⟩ = some (.slice A0_8 l0_8.length c0_8) := (blk_cell BK101.out 8).trans rfl; have hfz16_0 := blk_frozen BK101.out 0; have hfz16_1 := blk_frozen BK101.out 1; have hfz16_2 := blk_frozen BK101.out 2; have hfz16_3 := blk_frozen BK101.out 3; have hfz16_4 := blk_frozen BK101.out 4; have hfz16_5 := blk_frozen BK101.out 5; have hfz16_6 := blk_frozen BK101.out 6; have hfz16_7 := blk_frozen BK101.out 7; have hfz16_8 := blk_frozen BK101.out 8) | (go_at_call 72; (with_reducible refine (tidepolelaw29_few.calls k _ _ l0_6 true _ ?side1 ?side2 A4.out).mono ?_); (case side1 => repeat (first | exact (Kd.C_below HR0_6.out HB.out) | (with_reducible refine Kd.C_alloc ?_ _) | (with_reducible refine Kd.C_drewN ?_ _) | (with_reducible refine Kd.C_drew ?_))); (case side2 => exact HC0_6.out); rintro e w17 ⟨rfl, hb⟩; have n0_ := Aside0.mk (blk_below (g := gb101) (o := .cells #[.int .i64 a0_0, .int .u64 a0_1, .int .u64 a0_2, .int .u64 a0_3, .int .u64 a0_4, .slice A0_5 l0_5.length c0_5, .slice A0_6 l0_6.length c0_6, .slice A0_7 l0_7.length c0_7, .slice A0_8 l0_8.length c0_8] 30 (0, 0)) (by (with_reducible repeat (first | refine blk_drewN ?_ _ | refine blk_drew ?_ | refine blk_alloc ?_ _)); exact BK101.out) hb); have n1_ := Aside0.mk (below_step (by repeat (first | (with_reducible first | exact HB.out | apply below_alloc | apply pw_below_drewN | apply below_drew1 | refine below_set ?_ GE101.out) | exact HB.out)) hb); clear BK101; clear HB; have BK101 := n0_; have HB := n1_; clear n0_ n1_; (try clear hb); (try clear hb2); (try clear hk); (try clear hi); clear A4; have hcz18_0 : w17.cell? ⟨gb101, 0, none⟩ = some (.int .i64 a0_0) := (blk_cell BK101.out 0).trans rfl; have hcz18_1 : w17.cell? ⟨gb101, 1, none⟩ = some (.int .u64 a0_1) := (blk_cell BK101.out 1).trans rfl; have hcz18_2 : w17.cell? ⟨gb101, 2, none⟩ = some (.int .u64 a0_2) := (blk_cell BK101.out 2).trans rfl; have hcz18_3 : w17.cell? ⟨gb101, 3, none⟩ = some (.int .u64 a0_3) := (blk_cell BK101.out 3).trans rfl; have hcz18_4 : w17.cell? ⟨gb101, 4, none⟩ = some (.int .u64 a0_4) := (blk_cell BK101.out 4).trans rfl; have hcz18_5 : w17.cell? ⟨gb101, 5, none⟩ = some (.slice A0_5 l0_5.length c0_5) := (blk_cell BK101.out 5).trans rfl; have hcz18_6 : w17.cell? ⟨gb101, 6, none⟩ = some (.slice A0_6 l0_6.length c0_6) := (blk_cell BK101.out 6).trans rfl; have hcz18_7 : w17.cell? ⟨gb101, 7, none⟩ = some (.slice A0_7 l0_7.length c0_7) := (blk_cell BK101.out 7).trans rfl; have hcz18_8 : w17.cell? ⟨gb101, 8, none⟩ = some (.slice A0_8 l0_8.length c0_8) := (blk_cell BK101.out 8).trans rfl; have hfz18_0 := blk_frozen BK101.out 0; have hfz18_1 := blk_frozen BK101.out 1; have hfz18_2 := blk_frozen BK101.out 2; have hfz18_3 := blk_frozen BK101.out 3; have hfz18_4 := blk_frozen BK101.out 4; have hfz18_5 := blk_frozen BK101.out 5; have hfz18_6 := blk_frozen BK101.out 6; have hfz18_7 := blk_frozen BK101.out 7; have hfz18_8 := blk_frozen BK101.out 8))
    go_ret
    exact ⟨by first | rfl | (simp [errW_none, errW_some] <;> rfl) | (simp [*, errW_none, errW_some] <;> rfl), by repeat (first | (with_reducible first | exact HB.out | apply below_alloc | apply pw_below_drewN | apply below_drew1 | refine below_set ?_ GE101.out) | exact HB.out)⟩
  ·replace c5 := Bool.eq_false_iff.mpr c5
   subst c5
   have H1 : (some false) = some r := by rw [if_neg (show ¬ (false = true) by decide)] at H; exact H
   clear H
   have H := H1
   clear H1
   obtain rfl := Option.some.inj H
   go_enter Try.func32, Try.ntmps32
   go_wp2_with (first | ((with_reducible refine gate_dst (N := 1) rfl ?_); (try (refine gate_guard (by rfl) ?_; dsimp only)); refine box_event ?hg (N := 1) ?hd (cs := #[.int .i64 a0_0, .int .u64 a0_1, .int .u64 a0_2, .int .u64 a0_3, .int .u64 a0_4, .slice A0_5 l0_5.length c0_5, .slice A0_6 l0_6.length c0_6, .slice A0_7 l0_7.length c0_7, .slice A0_8 l0_8.length c0_8]) (t := 30) ?hr ?_; (case hd => rfl); (case hg => rfl); (case hr => first | (go_simp; done) | (go_simp; rfl)); intro gb101 hg w19 hbox hb; have n0_ := Aside0.mk (below_step (by repeat (first | (with_reducible first | exact HB.out | apply below_alloc | apply pw_below_drewN | apply below_drew1) | exact HB.out)) hb); have n1_ := Aside0.mk (hbox); have n2_ := Aside0.mk ((by rw [hg]; exact (below_size (by repeat (first | (with_reducible first | exact HB.out | apply below_alloc | apply pw_below_drewN | apply below_drew1) | exact HB.out))) : w.heap.size ≤ gb101)); have n3_ := Aside0.mk ((by rw [hg]; exact (below_size (by repeat (first | (with_reducible first | exact HB.out | apply below_alloc | apply pw_below_drewN | apply below_drew1) | exact HB.out))) : w.heap.size ≤ gb101)); clear HB; have HB := n0_; have BK101 := n1_; have GW101 := n2_; have GE101 := n3_; clear n0_ n1_ n2_ n3_; clear hb hbox hg; have hcz20_0 : w19.cell? ⟨gb101, 0, none⟩ = some (.int .i64 a0_0) := (blk_cell BK101.out 0).trans rfl; have hcz20_1 : w19.cell? ⟨gb101, 1, none⟩ = some (.int .u64 a0_1) := (blk_cell BK101.out 1).trans rfl; have hcz20_2 : w19.cell? ⟨gb101, 2, none⟩ = some (.int .u64 a0_2) := (blk_cell BK101.out 2).trans rfl; have hcz20_3 : w19.cell? ⟨gb101, 3, none⟩ = some (.int .u64 a0_3) := (blk_cell BK101.out 3).trans rfl; have hcz20_4 : w19.cell? ⟨gb101, 4, none⟩ = some (.int .u64 a0_4) := (blk_cell BK101.out 4).trans rfl; have hcz20_5 : w19.cell? ⟨gb101, 5, none⟩ = some (.slice A0_5 l0_5.length c0_5) := (blk_cell BK101.out 5).trans rfl; have hcz20_6 : w19.cell? ⟨gb101, 6, none⟩ = some (.slice A0_6 l0_6.length c0_6) := (blk_cell BK101.out 6).trans rfl; have hcz20_7 : w19.cell? ⟨gb101, 7, none⟩ = some (.slice A0_7 l0_7.length c0_7) := (blk_cell BK101.out 7).trans rfl; have hcz20_8 : w19.cell? ⟨gb101, 8, none⟩ = some (.slice A0_8 l0_8.length c0_8) := (blk_cell BK101.out 8).trans rfl; have hfz20_0 := blk_frozen BK101.out 0; have hfz20_1 := blk_frozen BK101.out 1; have hfz20_2 := blk_frozen BK101.out 2; have hfz20_3 := blk_frozen BK101.out 3; have hfz20_4 := blk_frozen BK101.out 4; have hfz20_5 := blk_frozen BK101.out 5; have hfz20_6 := blk_frozen BK101.out 6; have hfz20_7 := blk_frozen BK101.out 7; have hfz20_8 := blk_frozen BK101.out 8) | ((with_reducible refine gate_callee (f := 72) rfl ?_); refine goesL_ (some 5) rfl rfl Try.func72 (by kernel_rfl) rfl #[.slice A0_5 l0_5.length c0_5] rfl (by (try simp only [List.map_toArray, List.map_cons, List.map_nil]); first | done | rfl | (simp only [List.length_drop, List.length_take]; rfl)) ?_; (with_reducible refine (tidepolelaw29_few.calls k _ _ l0_5 true _ ?side1 ?side2 A2.out).mono ?_); (case side1 => repeat (first | exact (Kd.C_below HR0_5.out HB.out) | (with_reducible refine Kd.C_alloc ?_ _) | (with_reducible refine Kd.C_drewN ?_ _) | (with_reducible refine Kd.C_drew ?_))); (case side2 => exact HC0_5.out); rintro e w21 ⟨rfl, hb⟩; refine ⟨_, rfl, ?_⟩; have n0_ := Aside0.mk (blk_below (g := gb101) (o := .cells #[.int .i64 a0_0, .int .u64 a0_1, .int .u64 a0_2, .int .u64 a0_3, .int .u64 a0_4, .slice A0_5 l0_5.length c0_5, .slice A0_6 l0_6.length c0_6, .slice A0_7 l0_7.length c0_7, .slice A0_8 l0_8.length c0_8] 30 (0, 0)) (by (with_reducible repeat (first | refine blk_drewN ?_ _ | refine blk_drew ?_ | refine blk_alloc ?_ _)); exact BK101.out) hb); have n1_ := Aside0.mk (below_step (by repeat (first | (with_reducible first | exact HB.out | apply below_alloc | apply pw_below_drewN | apply below_drew1 | refine below_set ?_ GE101.out) | exact HB.out)) hb); clear BK101; clear HB; have BK101 := n0_; have HB := n1_; clear n0_ n1_; (try clear hb); (try clear hb2); (try clear hk); (try clear hi); clear A2; have hcz22_0 : w21.cell? ⟨gb101, 0, none⟩ = some (.int .i64 a0_0) := (blk_cell BK101.out 0).trans rfl; have hcz22_1 : w21.cell? ⟨gb101, 1, none⟩ = some (.int .u64 a0_1) := (blk_cell BK101.out 1).trans rfl; have hcz22_2 : w21.cell? ⟨gb101, 2, none⟩ = some (.int .u64 a0_2) := (blk_cell BK101.out 2).trans rfl; have hcz22_3 : w21.cell? ⟨gb101, 3, none⟩ = some (.int .u64 a0_3) := (blk_cell BK101.out 3).trans rfl; have hcz22_4 : w21.cell? ⟨gb101, 4, none⟩ = some (.int .u64 a0_4) := (blk_cell BK101.out 4).trans rfl; have hcz22_5 : w21.cell? ⟨gb101, 5, none⟩ = some (.slice A0_5 l0_5.length c0_5) := (blk_cell BK101.out 5).trans rfl; have hcz22_6 : w21.cell? ⟨gb101, 6, none⟩ = some (.slice A0_6 l0_6.length c0_6) := (blk_cell BK101.out 6).trans rfl; have hcz22_7 : w21.cell? ⟨gb101, 7, none⟩ = some (.slice A0_7 l0_7.length c0_7) := (blk_cell BK101.out 7).trans rfl; have hcz22_8 : w21.cell? ⟨gb101, 8, none⟩ = some (.slice A0_8 l0_8.length c0_8) := (blk_cell BK101.out 8).trans rfl; have hfz22_0 := blk_frozen BK101.out 0; have hfz22_1 := blk_frozen BK101.out 1; have hfz22_2 := blk_frozen BK101.out 2; have hfz22_3 := blk_frozen BK101.out 3; have hfz22_4 := blk_frozen BK101.out 4; have hfz22_5 := blk_frozen BK101.out 5; have hfz22_6 := blk_frozen BK101.out 6; have hfz22_7 := blk_frozen BK101.out 7; have hfz22_8 := blk_frozen BK101.out 8) | (go_at_call 72; (with_reducible refine (tidepolelaw29_few.calls k _ _ l0_6 false _ ?side1 ?side2 A4.out).mono ?_); (case side1 => repeat (first | exact (Kd.C_below HR0_6.out HB.out) | (with_reducible refine Kd.C_alloc ?_ _) | (with_reducible refine Kd.C_drewN ?_ _) | (with_reducible refine Kd.C_drew ?_))); (case side2 => exact HC0_6.out); rintro e w23 ⟨rfl, hb⟩; have n0_ := Aside0.mk (blk_below (g := gb101) (o := .cells #[.int .i64 a0_0, .int .u64 a0_1, .int .u64 a0_2, .int .u64 a0_3, .int .u64 a0_4, .slice A0_5 l0_5.length c0_5, .slice A0_6 l0_6.length c0_6, .slice A0_7 l0_7.length c0_7, .slice A0_8 l0_8.length c0_8] 30 (0, 0)) (by (with_reducible repeat (first | refine blk_drewN ?_ _ | refine blk_drew ?_ | refine blk_alloc ?_ _)); exact BK101.out) hb); have n1_ := Aside0.mk (below_step (by repeat (first | (with_reducible first | exact HB.out | apply below_alloc | apply pw_below_drewN | apply below_drew1 | refine below_set ?_ GE101.out) | exact HB.out)) hb); clear BK101; clear HB; have BK101 := n0_; have HB := n1_; clear n0_ n1_; (try clear hb); (try clear hb2); (try clear hk); (try clear hi); clear A4))
   go_ret
   exact ⟨by first | rfl | (simp [errW_none, errW_some] <;> rfl) | (simp [*, errW_none, errW_some] <;> rfl), by repeat (first | (with_reducible first | exact HB.out | apply below_alloc | apply pw_below_drewN | apply below_drew1 | refine below_set ?_ GE101.out) | exact HB.out)⟩
 ·replace c3 := Bool.eq_false_iff.mpr c3
  subst c3
  have H1 : (some false) = some r := by rw [if_neg (show ¬ (false = true) by decide)] at H; exact H
  clear H
  have H := H1
  clear H1
  obtain rfl := Option.some.inj H
  go_enter Try.func32, Try.ntmps32
  go_wp2_with (first | ((with_reducible refine gate_dst (N := 1) rfl ?_); (try (refine gate_guard (by rfl) ?_; dsimp only)); refine box_event ?hg (N := 1) ?hd (cs := #[.int .i64 a0_0, .int .u64 a0_1, .int .u64 a0_2, .int .u64 a0_3, .int .u64 a0_4, .slice A0_5 l0_5.length c0_5, .slice A0_6 l0_6.length c0_6, .slice A0_7 l0_7.length c0_7, .slice A0_8 l0_8.length c0_8]) (t := 30) ?hr ?_; (case hd => rfl); (case hg => rfl); (case hr => first | (go_simp; done) | (go_simp; rfl)); intro gb101 hg w24 hbox hb; have n0_ := Aside0.mk (below_step (by repeat (first | (with_reducible first | exact HB.out | apply below_alloc | apply pw_below_drewN | apply below_drew1) | exact HB.out)) hb); have n1_ := Aside0.mk (hbox); have n2_ := Aside0.mk ((by rw [hg]; exact (below_size (by repeat (first | (with_reducible first | exact HB.out | apply below_alloc | apply pw_below_drewN | apply below_drew1) | exact HB.out))) : w.heap.size ≤ gb101)); have n3_ := Aside0.mk ((by rw [hg]; exact (below_size (by repeat (first | (with_reducible first | exact HB.out | apply below_alloc | apply pw_below_drewN | apply below_drew1) | exact HB.out))) : w.heap.size ≤ gb101)); clear HB; have HB := n0_; have BK101 := n1_; have GW101 := n2_; have GE101 := n3_; clear n0_ n1_ n2_ n3_; clear hb hbox hg; have hcz25_0 : w24.cell? ⟨gb101, 0, none⟩ = some (.int .i64 a0_0) := (blk_cell BK101.out 0).trans rfl; have hcz25_1 : w24.cell? ⟨gb101, 1, none⟩ = some (.int .u64 a0_1) := (blk_cell BK101.out 1).trans rfl; have hcz25_2 : w24.cell? ⟨gb101, 2, none⟩ = some (.int .u64 a0_2) := (blk_cell BK101.out 2).trans rfl; have hcz25_3 : w24.cell? ⟨gb101, 3, none⟩ = some (.int .u64 a0_3) := (blk_cell BK101.out 3).trans rfl; have hcz25_4 : w24.cell? ⟨gb101, 4, none⟩ = some (.int .u64 a0_4) := (blk_cell BK101.out 4).trans rfl; have hcz25_5 : w24.cell? ⟨gb101, 5, none⟩ = some (.slice A0_5 l0_5.length c0_5) := (blk_cell BK101.out 5).trans rfl; have hcz25_6 : w24.cell? ⟨gb101, 6, none⟩ = some (.slice A0_6 l0_6.length c0_6) := (blk_cell BK101.out 6).trans rfl; have hcz25_7 : w24.cell? ⟨gb101, 7, none⟩ = some (.slice A0_7 l0_7.length c0_7) := (blk_cell BK101.out 7).trans rfl; have hcz25_8 : w24.cell? ⟨gb101, 8, none⟩ = some (.slice A0_8 l0_8.length c0_8) := (blk_cell BK101.out 8).trans rfl; have hfz25_0 := blk_frozen BK101.out 0; have hfz25_1 := blk_frozen BK101.out 1; have hfz25_2 := blk_frozen BK101.out 2; have hfz25_3 := blk_frozen BK101.out 3; have hfz25_4 := blk_frozen BK101.out 4; have hfz25_5 := blk_frozen BK101.out 5; have hfz25_6 := blk_frozen BK101.out 6; have hfz25_7 := blk_frozen BK101.out 7; have hfz25_8 := blk_frozen BK101.out 8) | ((with_reducible refine gate_callee (f := 72) rfl ?_); refine goesL_ (some 5) rfl rfl Try.func72 (by kernel_rfl) rfl #[.slice A0_5 l0_5.length c0_5] rfl (by (try simp only [List.map_toArray, List.map_cons, List.map_nil]); first | done | rfl | (simp only [List.length_drop, List.length_take]; rfl)) ?_; (with_reducible refine (tidepolelaw29_few.calls k _ _ l0_5 false _ ?side1 ?side2 A2.out).mono ?_); (case side1 => repeat (first | exact (Kd.C_below HR0_5.out HB.out) | (with_reducible refine Kd.C_alloc ?_ _) | (with_reducible refine Kd.C_drewN ?_ _) | (with_reducible refine Kd.C_drew ?_))); (case side2 => exact HC0_5.out); rintro e w26 ⟨rfl, hb⟩; refine ⟨_, rfl, ?_⟩; have n0_ := Aside0.mk (blk_below (g := gb101) (o := .cells #[.int .i64 a0_0, .int .u64 a0_1, .int .u64 a0_2, .int .u64 a0_3, .int .u64 a0_4, .slice A0_5 l0_5.length c0_5, .slice A0_6 l0_6.length c0_6, .slice A0_7 l0_7.length c0_7, .slice A0_8 l0_8.length c0_8] 30 (0, 0)) (by (with_reducible repeat (first | refine blk_drewN ?_ _ | refine blk_drew ?_ | refine blk_alloc ?_ _)); exact BK101.out) hb); have n1_ := Aside0.mk (below_step (by repeat (first | (with_reducible first | exact HB.out | apply below_alloc | apply pw_below_drewN | apply below_drew1 | refine below_set ?_ GE101.out) | exact HB.out)) hb); clear BK101; clear HB; have BK101 := n0_; have HB := n1_; clear n0_ n1_; (try clear hb); (try clear hb2); (try clear hk); (try clear hi); clear A2))
  go_ret
  exact ⟨by first | rfl | (simp [errW_none, errW_some] <;> rfl) | (simp [*, errW_none, errW_some] <;> rfl), by repeat (first | (with_reducible first | exact HB.out | apply below_alloc | apply pw_below_drewN | apply below_drew1 | refine below_set ?_ GE101.out) | exact HB.out)⟩
def tidepolelaw29_one.f  : Option (Int × Int × Int × Int × Int × (List (S87)) × (List (S87)) × List Int × List Int) := some (0, 0, 1, 6, 0, (([(⟨7, 1⟩ : S87)] : List (S87))), (([(⟨5, 1⟩ : S87)] : List (S87))), (([3] : List Int)), (([2] : List Int)))
set_option maxHeartbeats 8000000 in
set_option maxRecDepth 100000 in
theorem tidepolelaw29_one.calls  (r1 : Int) (r2 : Int) (r3 : Int) (r4 : Int) (r5 : Int) (r6 : List (S87)) (r7 : List (S87)) (r8 : List Int) (r9 : List Int) (w : World) (h : tidepolelaw29_one.f  = some (r1, r2, r3, r4, r5, r6, r7, r8, r9)) :
  Calls Try.prog 74 #[] w fun e w' => ∃ v5_ v6_ v7_ v8_ : Value, e = .returned (.agg #[.int .i64 r1, .int .u64 r2, .int .u64 r3, .int .u64 r4, .int .u64 r5, v5_, v6_, v7_, v8_]) ∧ Kd.R k87 87 w' w.heap.size (fun k_ => some k_ ≠ (v6_ : Value).ownBlock) v5_ r6 ∧ Kd.R k87 87 w' w.heap.size (fun k_ => some k_ ≠ (v5_ : Value).ownBlock) v6_ r7 ∧ Kd.R (Kd.int .i64) 2 w' w.heap.size (fun k_ => some k_ ≠ (v8_ : Value).ownBlock) v7_ r8 ∧ Kd.R (Kd.int .i64) 2 w' w.heap.size (fun k_ => some k_ ≠ (v7_ : Value).ownBlock) v8_ r9 ∧ Below w.heap.size w w' := by
 have hu30 := Try.underlying30
 have hu87 := Try.underlying87
 have HB := Aside0.mk (Below.refl w.heap.size w)
 have H : (some (0, 0, 1, 6, 0, (([(⟨7, 1⟩ : S87)] : List (S87))), (([(⟨5, 1⟩ : S87)] : List (S87))), (([3] : List Int)), (([2] : List Int)))) = some (r1, r2, r3, r4, r5, r6, r7, r8, r9) := h
 clear h
 obtain ⟨y102, hy102⟩ : ∃ y_ : List (S87), y_ = (([(⟨7, 1⟩ : S87)] : List (S87))) := ⟨_, rfl⟩
 replace H : (some (0, 0, 1, 6, 0, y102, (([(⟨5, 1⟩ : S87)] : List (S87))), (([3] : List Int)), (([2] : List Int)))) = some (r1, r2, r3, r4, r5, r6, r7, r8, r9) := by first | (rw [hy102]; with_reducible exact H) | (have H2_ := (Option.bind_some _ _).symm.trans H; rw [hy102]; with_reducible exact H2_) | (have H2_ := (Option.bind_some _ _).symm.trans H; with_reducible exact H2_) | with_reducible exact H | (rw [hy102]; exact H) | exact H
 have Ny102 := Aside0.mk hy102
 clear hy102
 obtain ⟨y105, hy105⟩ : ∃ y_ : List Int, y_ = (([3] : List Int)) := ⟨_, rfl⟩
 replace H : (some (0, 0, 1, 6, 0, y102, (([(⟨5, 1⟩ : S87)] : List (S87))), y105, (([2] : List Int)))) = some (r1, r2, r3, r4, r5, r6, r7, r8, r9) := by first | (rw [hy105]; with_reducible exact H) | (have H2_ := (Option.bind_some _ _).symm.trans H; rw [hy105]; with_reducible exact H2_) | (have H2_ := (Option.bind_some _ _).symm.trans H; with_reducible exact H2_) | with_reducible exact H | (rw [hy105]; exact H) | exact H
 have Ny105 := Aside0.mk hy105
 clear hy105
 obtain ⟨y108, hy108⟩ : ∃ y_ : List (S87), y_ = (([(⟨5, 1⟩ : S87)] : List (S87))) := ⟨_, rfl⟩
 replace H : (some (0, 0, 1, 6, 0, y102, y108, y105, (([2] : List Int)))) = some (r1, r2, r3, r4, r5, r6, r7, r8, r9) := by first | (rw [hy108]; with_reducible exact H) | (have H2_ := (Option.bind_some _ _).symm.trans H; rw [hy108]; with_reducible exact H2_) | (have H2_ := (Option.bind_some _ _).symm.trans H; with_reducible exact H2_) | with_reducible exact H | (rw [hy108]; exact H) | exact H
 have Ny108 := Aside0.mk hy108
 clear hy108
 obtain ⟨y111, hy111⟩ : ∃ y_ : List Int, y_ = (([2] : List Int)) := ⟨_, rfl⟩
 replace H : (some (0, 0, 1, 6, 0, y102, y108, y105, y111)) = some (r1, r2, r3, r4, r5, r6, r7, r8, r9) := by first | (rw [hy111]; with_reducible exact H) | (have H2_ := (Option.bind_some _ _).symm.trans H; rw [hy111]; with_reducible exact H2_) | (have H2_ := (Option.bind_some _ _).symm.trans H; with_reducible exact H2_) | with_reducible exact H | (rw [hy111]; exact H) | exact H
 have Ny111 := Aside0.mk hy111
 clear hy111
 simp only [Option.some.injEq, Prod.mk.injEq] at H
 obtain ⟨rfl, rfl, rfl, rfl, rfl, rfl, rfl, rfl, rfl⟩ := H
 go_enter Try.func74, Try.ntmps74
 go_wp2_with (first | ((with_reducible refine gate_dst (N := 0) rfl ?_); refine box_event ?hg (N := 0) ?hd (cs := #[.int .i64 0, .int .u64 0, .int .u64 0, .int .u64 0, .int .u64 0, .slice none 0 0, .slice none 0 0, .slice none 0 0, .slice none 0 0]) (t := 30) ?hr ?_; (case hd => rfl); (case hg => rfl); (case hr => first | (go_simp; done) | (go_simp; rfl)); intro gb101 hg w1 hbox hb; have n0_ := Aside0.mk (below_step (by repeat (first | (with_reducible first | exact HB.out | apply below_alloc | apply pw_below_drewN | apply below_drew1) | exact HB.out)) hb); have n1_ := Aside0.mk (hbox); have n2_ := Aside0.mk ((by rw [hg]; exact (below_size (by repeat (first | (with_reducible first | exact HB.out | apply below_alloc | apply pw_below_drewN | apply below_drew1) | exact HB.out))) : w.heap.size ≤ gb101)); have n3_ := Aside0.mk ((by rw [hg]; exact (below_size (by repeat (first | (with_reducible first | exact HB.out | apply below_alloc | apply pw_below_drewN | apply below_drew1) | exact HB.out))) : w.heap.size ≤ gb101)); clear HB; have HB := n0_; have BK101 := n1_; have GW101 := n2_; have GE101 := n3_; clear n0_ n1_ n2_ n3_; clear hb hbox hg) | ((with_reducible refine gate_dst (N := 2) rfl ?_); refine Kd.R_lit k87 _ 87 ?hg (N := 2) ?hd (xs := ([(⟨7, 1⟩ : S87)] : List (S87))) (inner := [.int .i64 7, .int .i64 1]) (ok := fun _ => True) (okp := fun _ => True) ?hr ?hp (fun _ hk => hk) trivial (Below.refl _ _) (Nat.le_refl _) (by simp) ?_; (case hd => rfl); (case hg => rfl); (case hr => first | (go_simp; done) | (go_simp; rfl)); (case hp => exact (Reps.c2 (show Kd.M k87 _ _ _ (⟨7, 1⟩ : S87) [.int .i64 7, .int .i64 1] from (k87_mkM _ _ _ (⟨7, 1⟩ : S87) )) (Reps.none _ _))); intro v103 w2 ho3 hb hg_ hnew_; clear hg_ hnew_; (first | rw [← Ny102.out] at ho3 | (simp only [Int.reduceToNat] at ho3; rw [← Ny102.out] at ho3)); have n0_ := Aside0.mk (Kd.R_lower ho3 (below_size (by repeat (first | (with_reducible first | exact HB.out | apply below_alloc | apply pw_below_drewN | apply below_drew1 | refine below_set ?_ GE101.out) | exact HB.out)))); have n1_ := Aside0.mk (blk_below (g := gb101) (o := .cells #[.int .i64 0, .int .u64 0, .int .u64 0, .int .u64 0, .int .u64 0, .slice none 0 0, .slice none 0 0, .slice none 0 0, .slice none 0 0] 30 (0, 0)) (by (with_reducible repeat (first | refine blk_drewN ?_ _ | refine blk_drew ?_ | refine blk_alloc ?_ _)); exact BK101.out) hb); have n2_ := Aside0.mk (below_step (by repeat (first | (with_reducible first | exact HB.out | apply below_alloc | apply pw_below_drewN | apply below_drew1 | refine below_set ?_ GE101.out) | exact HB.out)) hb); clear BK101; clear HB; have HO104 := n0_; have BK101 := n1_; have HB := n2_; clear n0_ n1_ n2_; clear hb ho3) | ((with_reducible refine gate_dst (N := 3) rfl ?_); refine Kd.R_lit (Kd.int .i64) _ 2 ?hg (N := 3) ?hd (xs := ([3] : List Int)) (inner := [.int .i64 3]) (ok := fun _ => True) (okp := fun _ => True) ?hr ?hp (fun _ hk => hk) trivial (Below.refl _ _) (Nat.le_refl _) (by simp) ?_; (case hd => rfl); (case hg => rfl); (case hr => first | (go_simp; done) | (go_simp; rfl)); (case hp => exact (Reps.one (show Kd.M (Kd.int .i64) _ _ _ 3 [.int .i64 3] from rfl) (Reps.none _ _))); intro v106 w4 ho5 hb hg_ hnew_; clear hg_ hnew_; (first | rw [← Ny105.out] at ho5 | (simp only [Int.reduceToNat] at ho5; rw [← Ny105.out] at ho5)); have n0_ := Aside0.mk (Kd.R_below (by (with_reducible repeat (first | apply Kd.R_alloc | apply Kd.R_drewN | apply Kd.R_drew)); exact HO104.out) hb); have n1_ := Aside0.mk (Kd.R_lower ho5 (below_size (by repeat (first | (with_reducible first | exact HB.out | apply below_alloc | apply pw_below_drewN | apply below_drew1 | refine below_set ?_ GE101.out) | exact HB.out)))); have n2_ := Aside0.mk (blk_below (g := gb101) (o := .cells #[.int .i64 0, .int .u64 0, .int .u64 0, .int .u64 0, .int .u64 0, .slice none 0 0, .slice none 0 0, .slice none 0 0, .slice none 0 0] 30 (0, 0)) (by (with_reducible repeat (first | refine blk_drewN ?_ _ | refine blk_drew ?_ | refine blk_alloc ?_ _)); exact BK101.out) hb); have n3_ := Aside0.mk (below_step (by repeat (first | (with_reducible first | exact HB.out | apply below_alloc | apply pw_below_drewN | apply below_drew1 | refine below_set ?_ GE101.out) | exact HB.out)) hb); clear HO104; clear BK101; clear HB; have HO104 := n0_; have HO107 := n1_; have BK101 := n2_; have HB := n3_; clear n0_ n1_ n2_ n3_; clear hb ho5) | ((with_reducible refine gate_dst (N := 5) rfl ?_); refine Kd.R_lit k87 _ 87 ?hg (N := 5) ?hd (xs := ([(⟨5, 1⟩ : S87)] : List (S87))) (inner := [.int .i64 5, .int .i64 1]) (ok := fun _ => True) (okp := fun _ => True) ?hr ?hp (fun _ hk => hk) trivial (Below.refl _ _) (Nat.le_refl _) (by simp) ?_; (case hd => rfl); (case hg => rfl); (case hr => first | (go_simp; done) | (go_simp; rfl)); (case hp => exact (Reps.c2 (show Kd.M k87 _ _ _ (⟨5, 1⟩ : S87) [.int .i64 5, .int .i64 1] from (k87_mkM _ _ _ (⟨5, 1⟩ : S87) )) (Reps.none _ _))); intro v109 w6 ho7 hb hg_ hnew_; clear hg_ hnew_; (first | rw [← Ny108.out] at ho7 | (simp only [Int.reduceToNat] at ho7; rw [← Ny108.out] at ho7)); have n0_ := Aside0.mk (Kd.R_elder' (by (with_reducible repeat (first | apply Kd.R_alloc | apply Kd.R_drewN | apply Kd.R_drew)); exact HO104.out) (Kd.R_base ho7) hb); have n1_ := Aside0.mk (Kd.R_below (by (with_reducible repeat (first | apply Kd.R_alloc | apply Kd.R_drewN | apply Kd.R_drew)); exact HO107.out) hb); have n2_ := Aside0.mk (Kd.R_lower (Kd.R_new' ho7 (Kd.R_lt (by (with_reducible repeat (first | apply Kd.R_alloc | apply Kd.R_drewN | apply Kd.R_drew)); exact HO104.out))) (below_size (by repeat (first | (with_reducible first | exact HB.out | apply below_alloc | apply pw_below_drewN | apply below_drew1 | refine below_set ?_ GE101.out) | exact HB.out)))); have n3_ := Aside0.mk (blk_below (g := gb101) (o := .cells #[.int .i64 0, .int .u64 0, .int .u64 0, .int .u64 0, .int .u64 0, .slice none 0 0, .slice none 0 0, .slice none 0 0, .slice none 0 0] 30 (0, 0)) (by (with_reducible repeat (first | refine blk_drewN ?_ _ | refine blk_drew ?_ | refine blk_alloc ?_ _)); exact BK101.out) hb); have n4_ := Aside0.mk (below_step (by repeat (first | (with_reducible first | exact HB.out | apply below_alloc | apply pw_below_drewN | apply below_drew1 | refine below_set ?_ GE101.out) | exact HB.out)) hb); clear HO104; clear HO107; clear BK101; clear HB; have HO104 := n0_; have HO107 := n1_; have HO110 := n2_; have BK101 := n3_; have HB := n4_; clear n0_ n1_ n2_ n3_ n4_; clear hb ho7) | ((with_reducible refine gate_dst (N := 6) rfl ?_); refine Kd.R_lit (Kd.int .i64) _ 2 ?hg (N := 6) ?hd (xs := ([2] : List Int)) (inner := [.int .i64 2]) (ok := fun _ => True) (okp := fun _ => True) ?hr ?hp (fun _ hk => hk) trivial (Below.refl _ _) (Nat.le_refl _) (by simp) ?_; (case hd => rfl); (case hg => rfl); (case hr => first | (go_simp; done) | (go_simp; rfl)); (case hp => exact (Reps.one (show Kd.M (Kd.int .i64) _ _ _ 2 [.int .i64 2] from rfl) (Reps.none _ _))); intro v112 w8 ho9 hb hg_ hnew_; clear hg_ hnew_; (first | rw [← Ny111.out] at ho9 | (simp only [Int.reduceToNat] at ho9; rw [← Ny111.out] at ho9)); have n0_ := Aside0.mk (Kd.R_below (by (with_reducible repeat (first | apply Kd.R_alloc | apply Kd.R_drewN | apply Kd.R_drew)); exact HO104.out) hb); have n1_ := Aside0.mk (Kd.R_elder' (by (with_reducible repeat (first | apply Kd.R_alloc | apply Kd.R_drewN | apply Kd.R_drew)); exact HO107.out) (Kd.R_base ho9) hb); have n2_ := Aside0.mk (Kd.R_below (by (with_reducible repeat (first | apply Kd.R_alloc | apply Kd.R_drewN | apply Kd.R_drew)); exact HO110.out) hb); have n3_ := Aside0.mk (Kd.R_lower (Kd.R_new' ho9 (Kd.R_lt (by (with_reducible repeat (first | apply Kd.R_alloc | apply Kd.R_drewN | apply Kd.R_drew)); exact HO107.out))) (below_size (by repeat (first | (with_reducible first | exact HB.out | apply below_alloc | apply pw_below_drewN | apply below_drew1 | refine below_set ?_ GE101.out) | exact HB.out)))); have n4_ := Aside0.mk (blk_below (g := gb101) (o := .cells #[.int .i64 0, .int .u64 0, .int .u64 0, .int .u64 0, .int .u64 0, .slice none 0 0, .slice none 0 0, .slice none 0 0, .slice none 0 0] 30 (0, 0)) (by (with_reducible repeat (first | refine blk_drewN ?_ _ | refine blk_drew ?_ | refine blk_alloc ?_ _)); exact BK101.out) hb); have n5_ := Aside0.mk (below_step (by repeat (first | (with_reducible first | exact HB.out | apply below_alloc | apply pw_below_drewN | apply below_drew1 | refine below_set ?_ GE101.out) | exact HB.out)) hb); clear HO104; clear HO107; clear HO110; clear BK101; clear HB; have HO104 := n0_; have HO107 := n1_; have HO110 := n2_; have HO113 := n3_; have BK101 := n4_; have HB := n5_; clear n0_ n1_ n2_ n3_ n4_ n5_; clear hb ho9; obtain ⟨Ao10, co10, eo10⟩ := Kd.R_slice HO113.out; subst eo10; obtain ⟨Ao11, co11, eo11⟩ := Kd.R_slice HO107.out; subst eo11; obtain ⟨Ao12, co12, eo12⟩ := Kd.R_slice HO110.out; subst eo12; obtain ⟨Ao13, co13, eo13⟩ := Kd.R_slice HO104.out; subst eo13; have hcz14_0 : w8.cell? ⟨gb101, 0, none⟩ = some (.int .i64 0) := (blk_cell BK101.out 0).trans rfl; have hcz14_1 : w8.cell? ⟨gb101, 1, none⟩ = some (.int .u64 0) := (blk_cell BK101.out 1).trans rfl; have hcz14_2 : w8.cell? ⟨gb101, 2, none⟩ = some (.int .u64 0) := (blk_cell BK101.out 2).trans rfl; have hcz14_3 : w8.cell? ⟨gb101, 3, none⟩ = some (.int .u64 0) := (blk_cell BK101.out 3).trans rfl; have hcz14_4 : w8.cell? ⟨gb101, 4, none⟩ = some (.int .u64 0) := (blk_cell BK101.out 4).trans rfl; have hcz14_5 : w8.cell? ⟨gb101, 5, none⟩ = some (.slice none 0 0) := (blk_cell BK101.out 5).trans rfl; have hcz14_6 : w8.cell? ⟨gb101, 6, none⟩ = some (.slice none 0 0) := (blk_cell BK101.out 6).trans rfl; have hcz14_7 : w8.cell? ⟨gb101, 7, none⟩ = some (.slice none 0 0) := (blk_cell BK101.out 7).trans rfl; have hcz14_8 : w8.cell? ⟨gb101, 8, none⟩ = some (.slice none 0 0) := (blk_cell BK101.out 8).trans rfl; have hfz14_0 := blk_frozen BK101.out 0; have hfz14_1 := blk_frozen BK101.out 1; have hfz14_2 := blk_frozen BK101.out 2; have hfz14_3 := blk_frozen BK101.out 3; have hfz14_4 := blk_frozen BK101.out 4; have hfz14_5 := blk_frozen BK101.out 5; have hfz14_6 := blk_frozen BK101.out 6; have hfz14_7 := blk_frozen BK101.out 7; have hfz14_8 := blk_frozen BK101.out 8))
 refine bodyPost_ret (results_cell_row rfl _ _ gb101 30 #[.int .i64 0, .int .u64 0, .int .u64 1, .int .u64 6, .int .u64 0, .slice Ao13 y102.length co13, .slice Ao12 y108.length co12, .slice Ao11 y105.length co11, .slice Ao10 y111.length co10] (0, 0) _ rfl (by (with_reducible repeat (first | refine blk_drewN ?_ _ | refine blk_drew ?_ | refine blk_alloc ?_ _)); refine blk_put (cs := #[.int .i64 0, .int .u64 0, .int .u64 1, .int .u64 6, .int .u64 0, .slice Ao13 y102.length co13, .slice Ao12 y108.length co12, .slice Ao11 y105.length co11, .slice none 0 0]) ?_ 8 _ rfl; (with_reducible repeat (first | refine blk_drewN ?_ _ | refine blk_drew ?_ | refine blk_alloc ?_ _)); refine blk_put (cs := #[.int .i64 0, .int .u64 0, .int .u64 1, .int .u64 6, .int .u64 0, .slice Ao13 y102.length co13, .slice Ao12 y108.length co12, .slice none 0 0, .slice none 0 0]) ?_ 7 _ rfl; (with_reducible repeat (first | refine blk_drewN ?_ _ | refine blk_drew ?_ | refine blk_alloc ?_ _)); refine blk_put (cs := #[.int .i64 0, .int .u64 0, .int .u64 1, .int .u64 6, .int .u64 0, .slice Ao13 y102.length co13, .slice none 0 0, .slice none 0 0, .slice none 0 0]) ?_ 6 _ rfl; (with_reducible repeat (first | refine blk_drewN ?_ _ | refine blk_drew ?_ | refine blk_alloc ?_ _)); refine blk_put (cs := #[.int .i64 0, .int .u64 0, .int .u64 1, .int .u64 6, .int .u64 0, .slice none 0 0, .slice none 0 0, .slice none 0 0, .slice none 0 0]) ?_ 5 _ rfl; (with_reducible repeat (first | refine blk_drewN ?_ _ | refine blk_drew ?_ | refine blk_alloc ?_ _)); refine blk_put (cs := #[.int .i64 0, .int .u64 0, .int .u64 1, .int .u64 6, .int .u64 0, .slice none 0 0, .slice none 0 0, .slice none 0 0, .slice none 0 0]) ?_ 4 _ rfl; (with_reducible repeat (first | refine blk_drewN ?_ _ | refine blk_drew ?_ | refine blk_alloc ?_ _)); refine blk_put (cs := #[.int .i64 0, .int .u64 0, .int .u64 1, .int .u64 0, .int .u64 0, .slice none 0 0, .slice none 0 0, .slice none 0 0, .slice none 0 0]) ?_ 3 _ rfl; (with_reducible repeat (first | refine blk_drewN ?_ _ | refine blk_drew ?_ | refine blk_alloc ?_ _)); refine blk_put (cs := #[.int .i64 0, .int .u64 0, .int .u64 0, .int .u64 0, .int .u64 0, .slice none 0 0, .slice none 0 0, .slice none 0 0, .slice none 0 0]) ?_ 2 _ rfl; (with_reducible repeat (first | refine blk_drewN ?_ _ | refine blk_drew ?_ | refine blk_alloc ?_ _)); refine blk_put (cs := #[.int .i64 0, .int .u64 0, .int .u64 0, .int .u64 0, .int .u64 0, .slice none 0 0, .slice none 0 0, .slice none 0 0, .slice none 0 0]) ?_ 1 _ rfl; (with_reducible repeat (first | refine blk_drewN ?_ _ | refine blk_drew ?_ | refine blk_alloc ?_ _)); refine blk_put (cs := #[.int .i64 0, .int .u64 0, .int .u64 0, .int .u64 0, .int .u64 0, .slice none 0 0, .slice none 0 0, .slice none 0 0, .slice none 0 0]) ?_ 0 _ rfl; (with_reducible repeat (first | refine blk_drewN ?_ _ | refine blk_drew ?_ | refine blk_alloc ?_ _)); exact BK101.out) Try.underlying30 rfl (by kernel_rfl)) rfl ?_
 exact ⟨_, _, _, _, by first | rfl | (simp [errW_none, errW_some] <;> rfl) | (simp [*, errW_none, errW_some] <;> rfl), by (with_reducible repeat (first | apply Kd.R_alloc | apply Kd.R_drewN | apply Kd.R_drew)); exact Kd.R_mono (Kd.R_far (p := ⟨gb101, 8, none⟩) (Kd.R_far (p := ⟨gb101, 7, none⟩) (Kd.R_far (p := ⟨gb101, 6, none⟩) (Kd.R_far (p := ⟨gb101, 5, none⟩) (Kd.R_far (p := ⟨gb101, 4, none⟩) (Kd.R_far (p := ⟨gb101, 3, none⟩) (Kd.R_far (p := ⟨gb101, 2, none⟩) (Kd.R_far (p := ⟨gb101, 1, none⟩) (Kd.R_far (p := ⟨gb101, 0, none⟩) (Kd.R_types HO104.out BK101.out (by decide)) (fun _ hk => hk.2) (.int .i64 0)) (fun _ hk => hk.2) (.int .u64 0)) (fun _ hk => hk.2) (.int .u64 1)) (fun _ hk => hk.2) (.int .u64 6)) (fun _ hk => hk.2) (.int .u64 0)) (fun _ hk => hk.2) (.slice Ao13 y102.length co13)) (fun _ hk => hk.2) (.slice Ao12 y108.length co12)) (fun _ hk => hk.2) (.slice Ao11 y105.length co11)) (fun _ hk => hk.2) (.slice Ao10 y111.length co10)) (fun _ hk => hk.1.2), by (with_reducible repeat (first | apply Kd.R_alloc | apply Kd.R_drewN | apply Kd.R_drew)); exact Kd.R_mono (Kd.R_far (p := ⟨gb101, 8, none⟩) (Kd.R_far (p := ⟨gb101, 7, none⟩) (Kd.R_far (p := ⟨gb101, 6, none⟩) (Kd.R_far (p := ⟨gb101, 5, none⟩) (Kd.R_far (p := ⟨gb101, 4, none⟩) (Kd.R_far (p := ⟨gb101, 3, none⟩) (Kd.R_far (p := ⟨gb101, 2, none⟩) (Kd.R_far (p := ⟨gb101, 1, none⟩) (Kd.R_far (p := ⟨gb101, 0, none⟩) (Kd.R_types HO110.out BK101.out (by decide)) (fun _ hk => hk.2) (.int .i64 0)) (fun _ hk => hk.2) (.int .u64 0)) (fun _ hk => hk.2) (.int .u64 1)) (fun _ hk => hk.2) (.int .u64 6)) (fun _ hk => hk.2) (.int .u64 0)) (fun _ hk => hk.2) (.slice Ao13 y102.length co13)) (fun _ hk => hk.2) (.slice Ao12 y108.length co12)) (fun _ hk => hk.2) (.slice Ao11 y105.length co11)) (fun _ hk => hk.2) (.slice Ao10 y111.length co10)) (fun _ hk => hk.1.2), by (with_reducible repeat (first | apply Kd.R_alloc | apply Kd.R_drewN | apply Kd.R_drew)); exact Kd.R_mono (Kd.R_far (p := ⟨gb101, 8, none⟩) (Kd.R_far (p := ⟨gb101, 7, none⟩) (Kd.R_far (p := ⟨gb101, 6, none⟩) (Kd.R_far (p := ⟨gb101, 5, none⟩) (Kd.R_far (p := ⟨gb101, 4, none⟩) (Kd.R_far (p := ⟨gb101, 3, none⟩) (Kd.R_far (p := ⟨gb101, 2, none⟩) (Kd.R_far (p := ⟨gb101, 1, none⟩) (Kd.R_far (p := ⟨gb101, 0, none⟩) (Kd.R_types HO107.out BK101.out (by decide)) (fun _ hk => hk.2) (.int .i64 0)) (fun _ hk => hk.2) (.int .u64 0)) (fun _ hk => hk.2) (.int .u64 1)) (fun _ hk => hk.2) (.int .u64 6)) (fun _ hk => hk.2) (.int .u64 0)) (fun _ hk => hk.2) (.slice Ao13 y102.length co13)) (fun _ hk => hk.2) (.slice Ao12 y108.length co12)) (fun _ hk => hk.2) (.slice Ao11 y105.length co11)) (fun _ hk => hk.2) (.slice Ao10 y111.length co10)) (fun _ hk => hk.1.2), by (with_reducible repeat (first | apply Kd.R_alloc | apply Kd.R_drewN | apply Kd.R_drew)); exact Kd.R_mono (Kd.R_far (p := ⟨gb101, 8, none⟩) (Kd.R_far (p := ⟨gb101, 7, none⟩) (Kd.R_far (p := ⟨gb101, 6, none⟩) (Kd.R_far (p := ⟨gb101, 5, none⟩) (Kd.R_far (p := ⟨gb101, 4, none⟩) (Kd.R_far (p := ⟨gb101, 3, none⟩) (Kd.R_far (p := ⟨gb101, 2, none⟩) (Kd.R_far (p := ⟨gb101, 1, none⟩) (Kd.R_far (p := ⟨gb101, 0, none⟩) (Kd.R_types HO113.out BK101.out (by decide)) (fun _ hk => hk.2) (.int .i64 0)) (fun _ hk => hk.2) (.int .u64 0)) (fun _ hk => hk.2) (.int .u64 1)) (fun _ hk => hk.2) (.int .u64 6)) (fun _ hk => hk.2) (.int .u64 0)) (fun _ hk => hk.2) (.slice Ao13 y102.length co13)) (fun _ hk => hk.2) (.slice Ao12 y108.length co12)) (fun _ hk => hk.2) (.slice Ao11 y105.length co11)) (fun _ hk => hk.2) (.slice Ao10 y111.length co10)) (fun _ hk => hk.1.2), by repeat (first | (with_reducible first | exact HB.out | apply below_alloc | apply pw_below_drewN | apply below_drew1 | refine below_set ?_ GE101.out) | exact HB.out)⟩
end Go.Proofs.Ytgkplhdcafbfbaa.P
namespace Go.Proofs.Ytgkplhdcafbfbaa.P
open Go.RowKit Go.Shelf Go.Proofs.YtgkplhdcafbfbaaW.PrintWords Go.Proofs.YtgkplhdcafbfbaaW.PrintLast Go.Proofs.YtgkplhdcafbfbaaW.PrintMore
theorem few29_eq (l : List Sp) : ∃ b : Bool, (b = true → l.length ≤ 400) ∧ ∀ k, 402 ≤ k → tidepolelaw29_few.f k l = some b := by
  have hl : ∀ (d k i : Nat) (n : Int), 401 - i = d → d < k → i ≤ l.length → (i : Int) ≤ n → n ≤ 400 → ∃ b, tidepolelaw29_few.l0 k n l (l.length : Int) (i : Int) = some b ∧ (b = true → l.length ≤ 400) := by
    intro d
    induction d with
    | zero => intro k i n hd hk hi h0 h1; omega
    | succ d ih =>
      intro k i n hd hk hi h0 h1
      obtain ⟨k, rfl⟩ : ∃ m, k = m + 1 := ⟨k - 1, by omega⟩
      simp only [tidepolelaw29_few.l0]
      by_cases hlt : i < l.length
      · rw [if_pos (by omega), if_pos (by omega), if_pos (by omega), rdSp_at hlt, wrap_succ (by omega)]
        generalize l[i] = s
        have hrec : ∀ m : Int, n + 1 ≤ m → ∃ b, (if m > 400 then some false else tidepolelaw29_few.l0 k m l (l.length : Int) ((i + 1 : Nat) : Int)) = some b ∧ (b = true → l.length ≤ 400) := by
          intro m hm
          by_cases c : m > 400
          · rw [if_pos c]; exact ⟨false, rfl, fun h => by cases h⟩
          · rw [if_neg c]; exact ih k (i + 1) m (by omega) (by omega) (by omega) (by omega) (by omega)
        by_cases c : s.f1 > 0
        · rw [if_pos c]
          have hmn : 0 ≤ mn s.f1 5000 ∧ mn s.f1 5000 ≤ 5000 := by unfold mn; omega
          have ht := Int.tdiv_eq_ediv_of_nonneg (b := 10) hmn.1
          rw [ht]
          refine hrec _ ?_
          rw [wrap_id (x := mn s.f1 5000 / 10) (by omega) (by omega), wrap_id (x := 1 + mn s.f1 5000 / 10) (by omega) (by omega), wrap_id (x := n + (1 + mn s.f1 5000 / 10)) (by omega) (by omega), wrap_id (by omega) (by omega)]
          omega
        · rw [if_neg c]
          refine hrec _ ?_
          rw [wrap_id (by omega) (by omega)]; omega
      · rw [if_neg (by omega)]; exact ⟨true, rfl, fun _ => by omega⟩
  obtain ⟨b, h1, h2⟩ := hl 401 402 0 0 (by omega) (by omega) (by omega) (by omega) (by omega)
  refine ⟨b, h2, fun k hk => ?_⟩
  obtain ⟨b', h3, h4⟩ := hl 401 k 0 0 (by omega) (by omega) (by omega) (by omega) (by omega)
  have hm : ∀ m, tidepolelaw29_few.l0 (402 + m) 0 l (l.length : Int) 0 = some b := by
    intro m
    induction m with
    | zero => exact h1
    | succ m ih => exact (tidepolelaw29_few.mono_l (402 + m)) 0 l (l.length : Int) 0 b ih
  have := hm (k - 402)
  rw [show 402 + (k - 402) = k by omega] at this
  exact this
theorem small29_eq (h : Hi) : ∃ b : Bool, (b = true → h.f5.length ≤ 400 ∧ h.f6.length ≤ 400 ∧ h.f7.length ≤ 300 ∧ h.f8.length ≤ 300) ∧ ∀ k, 402 ≤ k → tidepolelaw29_small.f k h.f0 h.f1 h.f2 h.f3 h.f4 h.f5 h.f6 h.f7 h.f8 = some b := by
  obtain ⟨b5, h5, e5⟩ := few29_eq h.f5
  obtain ⟨b6, h6, e6⟩ := few29_eq h.f6
  unfold tidepolelaw29_small.f
  cases b5 with
  | false => exact ⟨false, (fun h => by cases h), fun k hk => by rw [e5 k hk]; rfl⟩
  | true =>
    cases b6 with
    | false => exact ⟨false, (fun h => by cases h), fun k hk => by rw [e5 k hk]; simp only [Option.bind_some, if_true]; rw [e6 k hk]; rfl⟩
    | true =>
      refine ⟨decide (h.f7.length ≤ 300) && decide (h.f8.length ≤ 300), fun h => ?_, fun k hk => ?_⟩
      · simp only [Bool.and_eq_true, decide_eq_true_eq] at h; exact ⟨h5 rfl, h6 rfl, h.1, h.2⟩
      · rw [e5 k hk]; simp only [Option.bind_some, if_true]; rw [e6 k hk]; simp only [Option.bind_some, if_true]
        by_cases c : h.f7.length ≤ 300
        · rw [if_pos (by omega)]; simp [c]; omega
        · rw [if_neg (by omega)]; simp [c]
theorem small29_c (h : Hi) : ∃ b : Bool, (b = true → h.f5.length ≤ 400 ∧ h.f6.length ≤ 400 ∧ h.f7.length ≤ 300 ∧ h.f8.length ≤ 300) ∧ ∀ (w : World) (v : Value), HI w v h → Calls Try.prog 32 #[v] w fun e w' => e = .returned (.bool b) ∧ Below w.heap.size w w' := by
  obtain ⟨b, hb, eb⟩ := small29_eq h
  refine ⟨b, hb, fun w v hv => ?_⟩
  obtain ⟨A5, c5, A6, c6, A7, c7, A8, c8, rfl, ⟨_, _, e5, h51, h52⟩, ⟨_, _, e6, h61, h62⟩, ⟨_, _, e7, h71, h72⟩, ⟨_, _, e8, h81, h82⟩⟩ := hv.open_
  cases e5; cases e6; cases e7; cases e8
  refine (tidepolelaw29_small.calls 402 h.f0 h.f1 h.f2 h.f3 h.f4 A5 c5 h.f5 A6 c6 h.f6 A7 c7 h.f7 A8 c8 h.f8 b w h52 h51 h62 h61 h72 h71 h82 h81 (eb _ (Nat.le_refl _))).mono ?_
  rintro e w1 ⟨rfl, hb⟩
  exact ⟨rfl, by first | exact hb | exact hb.below⟩
end Go.Proofs.Ytgkplhdcafbfbaa.P
namespace Go.Proofs.Ytgkplhdcafbfbaa.P
open Go.RowKit Go.Proofs.YtgkplhdcafbfbaaW.PrintWords Go.Proofs.YtgkplhdcafbfbaaW.PrintLast Go.Proofs.YtgkplhdcafbfbaaW.PrintMore
attribute [local go_sem] max2_int min2_int max_two min_two max_three min_three max_four min_four
def bits_Mul64.f (a0 : Int) (a1 : Int) : Option (Int × Int) := some (IntKind.u64.wrap ((IntKind.u64.wrap ((IntKind.u64.wrap ((a0 / 4294967296) * (a1 / 4294967296))) + ((IntKind.u64.wrap ((IntKind.u64.wrap ((a0 / 4294967296) * (Go.bits .and .u64 a1 4294967295))) + ((IntKind.u64.wrap ((Go.bits .and .u64 a0 4294967295) * (Go.bits .and .u64 a1 4294967295))) / 4294967296))) / 4294967296))) + ((IntKind.u64.wrap ((Go.bits .and .u64 (IntKind.u64.wrap ((IntKind.u64.wrap ((a0 / 4294967296) * (Go.bits .and .u64 a1 4294967295))) + ((IntKind.u64.wrap ((Go.bits .and .u64 a0 4294967295) * (Go.bits .and .u64 a1 4294967295))) / 4294967296))) 4294967295) + (IntKind.u64.wrap ((Go.bits .and .u64 a0 4294967295) * (a1 / 4294967296))))) / 4294967296)), IntKind.u64.wrap (a0 * a1))
set_option maxHeartbeats 8000000 in
set_option maxRecDepth 100000 in
theorem bits_Mul64.calls (a0 : Int) (a1 : Int) (r1 : Int) (r2 : Int) (w : World) (h : bits_Mul64.f a0 a1 = some (r1, r2)) :
  Calls Try.prog 108 #[.int .u64 a0, .int .u64 a1] w fun e w' => e = .returned (.tuple #[.int .u64 r1, .int .u64 r2]) ∧ Drawn0 w w' := by
 have H : (some (IntKind.u64.wrap ((IntKind.u64.wrap ((IntKind.u64.wrap ((a0 / 4294967296) * (a1 / 4294967296))) + ((IntKind.u64.wrap ((IntKind.u64.wrap ((a0 / 4294967296) * (Go.bits .and .u64 a1 4294967295))) + ((IntKind.u64.wrap ((Go.bits .and .u64 a0 4294967295) * (Go.bits .and .u64 a1 4294967295))) / 4294967296))) / 4294967296))) + ((IntKind.u64.wrap ((Go.bits .and .u64 (IntKind.u64.wrap ((IntKind.u64.wrap ((a0 / 4294967296) * (Go.bits .and .u64 a1 4294967295))) + ((IntKind.u64.wrap ((Go.bits .and .u64 a0 4294967295) * (Go.bits .and .u64 a1 4294967295))) / 4294967296))) 4294967295) + (IntKind.u64.wrap ((Go.bits .and .u64 a0 4294967295) * (a1 / 4294967296))))) / 4294967296)), IntKind.u64.wrap (a0 * a1))) = some (r1, r2) := h
 clear h
 simp only [Option.some.injEq, Prod.mk.injEq] at H
 obtain ⟨rfl, rfl⟩ := H
 go_enter Try.func108, Try.ntmps108
 go_wp2
 go_ret2
 exact ⟨by first | rfl | (simp; done) | (simp [*]; done), by repeat (first | exact Drawn0.refl _ | apply Drawn0.step)⟩
end Go.Proofs.Ytgkplhdcafbfbaa.P
namespace Go.Proofs.Ytgkplhdcafbfbaa.P
open Go Go.Shelf Go.Proofs
def lay134_ren : Go.Shelf.Ren := ⟨fun | 134 => 130 | 129 => 139 | n => n, fun | 53 => 26 | 3 => 3 | 4 => 4 | 46 => 196 | 5 => 5 | 9 => 9 | n => n, fun | n => n⟩
theorem lay134 : Go.Proofs.Lays.n134 Try.prog lay134_ren := {
  mixed := by kernel_rfl,
  f129 := Try.func139.trans (congrArg some (by kernel_rfl)),
  f134 := Try.func130.trans (congrArg some (by kernel_rfl)),
  t3 := Try.underlying3,
  a3 := Try.isAgg3,
  z3 := Try.sizeOf3,
  v3 := Try.zeroValue3,
  t4 := Try.underlying4,
  a4 := Try.isAgg4,
  z4 := Try.sizeOf4,
  v4 := Try.zeroValue4,
  t5 := Try.underlying5,
  a5 := Try.isAgg5,
  z5 := Try.sizeOf5,
  v5 := Try.zeroValue5,
  t9 := Try.underlying9,
  a9 := Try.isAgg9,
  z9 := Try.sizeOf9,
  v9 := Try.zeroValue9,
  t46 := Try.underlying196,
  a46 := Try.isAgg196,
  z46 := Try.sizeOf196,
  v46 := Try.zeroValue196,
  t53 := Try.underlying26,
  a53 := Try.isAgg26,
  z53 := Try.sizeOf26,
  v53 := Try.zeroValue26 }
end Go.Proofs.Ytgkplhdcafbfbaa.P
namespace Go.Proofs.Ytgkplhdcafbfbaa.P
theorem dv_done {K a b U V q r : Nat} (hK : 0 < K) (h : q * a + r = U) (hQ : (U * K + V) / (a * K + b) ≤ q) (hY : 0 < a * K + b) (hc : q * b ≤ K * r + V) : q = (U * K + V) / (a * K + b) := by
  refine Nat.le_antisymm ((Nat.le_div_iff_mul_le hY).2 ?_) hQ
  have e : q * (a * K + b) = (q * a) * K + q * b := by rw [Nat.mul_add, Nat.mul_assoc]
  rw [e, ← h, Nat.add_mul]
  have : r * K = K * r := Nat.mul_comm _ _
  omega
theorem dv_gt {K a b U V q r : Nat} (h : q * a + r = U) (hY : 0 < a * K + b) (hc : K * r + V < q * b) : (U * K + V) / (a * K + b) < q := by
  refine (Nat.div_lt_iff_lt_mul hY).2 ?_
  have e : q * (a * K + b) = (q * a) * K + q * b := by rw [Nat.mul_add, Nat.mul_assoc]
  rw [e, ← h, Nat.add_mul]
  have : r * K = K * r := Nat.mul_comm _ _
  omega
theorem dv_digit {K Y U V : Nat} (hU : U < Y) (hV : V < K) : (U * K + V) / Y < K := by
  refine (Nat.div_lt_iff_lt_mul (by omega)).2 ?_
  have : (U + 1) * K ≤ Y * K := Nat.mul_le_mul_right _ hU
  rw [Nat.add_mul] at this
  rw [Nat.mul_comm K Y]
  omega
theorem dv_first {a b U V : Nat} (ha : 2147483648 ≤ a) (ha2 : a < 4294967296) (hb : b < 4294967296) (hU : U < a * 4294967296 + b) (hV : V < 4294967296) :
    (U * 4294967296 + V) / (a * 4294967296 + b) ≤ U / a ∧ U / a ≤ 4294967297 ∧ U / a * a + U % a = U ∧ U % a < a := by
  refine ⟨?_, ?_, Nat.div_add_mod' U a, Nat.mod_lt _ (by omega)⟩
  · have h1 : U < (U / a + 1) * a := Nat.lt_mul_of_div_lt (Nat.lt_succ_self _) (by omega)
    have h2 : (U * 4294967296 + V) / (a * 4294967296 + b) ≤ (U * 4294967296 + V) / (a * 4294967296) := Nat.div_le_div_left (by omega) (by omega)
    refine Nat.le_trans h2 (Nat.le_of_lt_succ ((Nat.div_lt_iff_lt_mul (by omega)).2 ?_))
    have h3 : (U + 1) * 4294967296 ≤ ((U / a + 1) * a) * 4294967296 := Nat.mul_le_mul_right _ h1
    rw [← Nat.mul_assoc]
    rw [Nat.add_mul] at h3
    show _ < (U / a + 1) * a * 4294967296
    omega
  · refine Nat.le_of_lt_succ ((Nat.div_lt_iff_lt_mul (by omega)).2 ?_)
    omega
theorem dv_break {a b U V q r : Nat} (h : q * a + r = U) (hY : 0 < a * 4294967296 + b) (hQ : (U * 4294967296 + V) / (a * 4294967296 + b) ≤ q) (hb : b < 4294967296) (hq : q ≤ 4294967296) (hr : 4294967296 ≤ r) : q = (U * 4294967296 + V) / (a * 4294967296 + b) := by
  refine dv_done (by omega) h hQ hY ?_
  have h1 : q * b ≤ 4294967296 * b := Nat.mul_le_mul_right _ hq
  omega
theorem dv_left {U V Y q M : Nat} (hY : 0 < Y) (hM : Y ≤ M) (hq : q = (U * 4294967296 + V) / Y) : ((((U * 4294967296 % M + V) % M : Nat) : Int) - ((q * Y % M : Nat) : Int)) % (M : Int) = (((U * 4294967296 + V) % Y : Nat) : Int) := by
  have h1 := Nat.div_add_mod (U * 4294967296 + V) Y
  rw [← hq] at h1
  have h2 := Nat.mod_lt (U * 4294967296 + V) hY
  obtain ⟨r, hr⟩ : ∃ r, (U * 4294967296 + V) % Y = r := ⟨_, rfl⟩
  rw [hr] at h1 h2 ⊢
  have e1 : (((U * 4294967296 % M + V) % M : Nat) : Int) % M = (((U * 4294967296 + V : Nat)) : Int) % M := by
    rw [← Int.natCast_emod, ← Int.natCast_emod, Nat.mod_mod, Nat.mod_add_mod]
  have e2 : (((q * Y % M : Nat)) : Int) % M = ((q * Y : Nat) : Int) % M := by rw [← Int.natCast_emod, ← Int.natCast_emod, Nat.mod_mod]
  rw [Int.sub_emod, e1, e2, ← Int.sub_emod, ← h1]
  rw [show (((Y * q + r : Nat)) : Int) - ((q * Y : Nat) : Int) = (r : Int) by rw [Nat.mul_comm q Y]; omega]
  exact Int.emod_eq_of_lt (by omega) (by omega)
theorem dv_two {y s hi lo Y U1 V1 V0 q1 q0 : Nat} (hy : 0 < y) (eY : Y = y * 2 ^ s) (eU : (U1 * 4294967296 + V1) * 4294967296 + V0 = (hi * 18446744073709551616 + lo) * 2 ^ s)
    (h1 : q1 = (U1 * 4294967296 + V1) / Y) (h0 : q0 = ((U1 * 4294967296 + V1) % Y * 4294967296 + V0) / Y) :
    q1 * 4294967296 + q0 = (hi * 18446744073709551616 + lo) / y ∧ ((U1 * 4294967296 + V1) % Y * 4294967296 + V0) % Y / 2 ^ s = (hi * 18446744073709551616 + lo) % y := by
  have hp : 0 < 2 ^ s := Nat.two_pow_pos s
  have hY : 0 < Y := by rw [eY]; exact Nat.mul_pos hy hp
  have a1 := Nat.div_add_mod (U1 * 4294967296 + V1) Y
  rw [← h1] at a1
  have a0 := Nat.div_add_mod ((U1 * 4294967296 + V1) % Y * 4294967296 + V0) Y
  rw [← h0] at a0
  have hr := Nat.mod_lt ((U1 * 4294967296 + V1) % Y * 4294967296 + V0) hY
  obtain ⟨r, hr_⟩ : ∃ r, ((U1 * 4294967296 + V1) % Y * 4294967296 + V0) % Y = r := ⟨_, rfl⟩
  rw [hr_] at a0 hr ⊢
  obtain ⟨r1, hr1_⟩ : ∃ r1, (U1 * 4294967296 + V1) % Y = r1 := ⟨_, rfl⟩
  rw [hr1_] at a1 a0
  clear h0 hr_ hr1_ h1
  have e : (hi * 18446744073709551616 + lo) * 2 ^ s = Y * (q1 * 4294967296 + q0) + r := by
    rw [← eU, ← a1, Nat.add_mul, Nat.mul_add, Nat.add_assoc, Nat.add_assoc, ← a0, Nat.mul_assoc]
  obtain ⟨n, hn⟩ : ∃ n, hi * 18446744073709551616 + lo = n := ⟨_, rfl⟩
  rw [hn] at e ⊢
  have d1 : n * 2 ^ s / Y = q1 * 4294967296 + q0 := by rw [e, Nat.mul_add_div hY, Nat.div_eq_of_lt hr, Nat.add_zero]
  have d2 : n * 2 ^ s % Y = r := by rw [e, Nat.mul_add_mod, Nat.mod_eq_of_lt hr]
  rw [eY] at d1 d2
  rw [Nat.mul_div_mul_right _ _ hp] at d1
  rw [Nat.mul_mod_mul_right] at d2
  refine ⟨d1.symm, ?_⟩
  rw [← d2, Nat.mul_div_cancel _ hp]
end Go.Proofs.Ytgkplhdcafbfbaa.P
namespace Go.Proofs.Ytgkplhdcafbfbaa.P
open Go.RowKit Go.Shelf Go.Proofs.YtgkplhdcafbfbaaW.PrintWords Go.Proofs.YtgkplhdcafbfbaaW.PrintLast Go.Proofs.YtgkplhdcafbfbaaW.PrintMore
theorem lz_c (y s : Nat) (hs : Lib.bitLen y + s = 64) (hy : y < 18446744073709551616) (w : World) : Calls Try.prog 130 #[.int .u64 y] w fun e w' => e = .returned (.int .i64 s) ∧ w = w' := by
  refine (Any.bits_LeadingZeros64 lay134 y w (by omega) (by omega)).mono ?_
  rintro e w' ⟨rfl, rfl⟩
  refine ⟨?_, rfl⟩
  rw [Int.toNat_natCast]
  congr 2
  omega
theorem wrapC (n : Nat) (h : n < 18446744073709551616) : IntKind.u64.wrap (n : Int) = (n : Int) := Mul64.wrapN n h
theorem norm_y {y s : Nat} (h0 : 0 < y) (hy : y < 18446744073709551616) (hs : Lib.bitLen y + s = 64) : s ≤ 63 ∧ 9223372036854775808 ≤ y * 2 ^ s ∧ y * 2 ^ s < 18446744073709551616 := by
  have h1 : 2 ^ Nat.log2 y ≤ y := Nat.log2_self_le (by omega)
  have h2 : y < 2 ^ (Nat.log2 y + 1) := Nat.lt_log2_self
  have h3 := Lib.bitLen_shift (Nat.log2 y) y h1 hy
  have h4 : y / 2 ^ Nat.log2 y = 1 := by
    rw [Nat.pow_succ] at h2
    exact Nat.div_eq_of_lt_le (by omega) (by omega)
  rw [h4, show Lib.bitLen 1 = 1 from by decide] at h3
  have hn : Nat.log2 y < 64 := (Nat.log2_lt (by omega)).2 hy
  generalize Nat.log2 y = n at *
  have hs' : s = 63 - n := by omega
  subst hs'
  refine ⟨by omega, ?_, ?_⟩
  · have e : 2 ^ n * 2 ^ (63 - n) = 9223372036854775808 := by rw [← Nat.pow_add, show n + (63 - n) = 63 by omega]
    rw [← e]; exact Nat.mul_le_mul_right _ h1
  · have e : 2 ^ (n + 1) * 2 ^ (63 - n) = 18446744073709551616 := by rw [← Nat.pow_add, show n + 1 + (63 - n) = 64 by omega]
    rw [← e]; exact Nat.mul_lt_mul_of_pos_right h2 (Nat.two_pow_pos _)
theorem shl_eq (x s : Nat) (hs : s ≤ 63) : IntKind.u64.wrap ((x : Int) * 2 ^ min (IntKind.u64.wrap (s : Int)).toNat 64) = ((x * 2 ^ s % 18446744073709551616 : Nat) : Int) := by
  rw [wrapC s (by omega), Int.toNat_natCast, Nat.min_eq_left (by omega), show ((x : Int) * 2 ^ s) = ((x * 2 ^ s : Nat) : Int) by simp]
  exact Mul64.wrapM _
theorem or_eq (hi lo s : Nat) (hs : s ≤ 63) (hh : hi * 2 ^ s < 18446744073709551616) (hl : lo < 18446744073709551616) :
    bits .or .u64 (IntKind.u64.wrap ((hi : Int) * 2 ^ min (IntKind.u64.wrap (s : Int)).toNat 64)) ((lo : Int) / 2 ^ min (IntKind.u64.wrap (64 - IntKind.u64.wrap (s : Int))).toNat 64) = ((hi * 2 ^ s + lo * 2 ^ s / 18446744073709551616 : Nat) : Int) := by
  rw [shl_eq hi s hs, Nat.mod_eq_of_lt hh, wrapC s (by omega), show (64 - (s : Int)) = ((64 - s : Nat) : Int) by omega, wrapC (64 - s) (by omega), Int.toNat_natCast, Nat.min_eq_left (by omega)]
  have e1 : (lo : Int) / 2 ^ (64 - s) = ((lo / 2 ^ (64 - s) : Nat) : Int) := by simp
  have e2 : lo * 2 ^ s / 18446744073709551616 = lo / 2 ^ (64 - s) := by
    rw [show (18446744073709551616 : Nat) = 2 ^ (64 - s) * 2 ^ s by rw [← Nat.pow_add, show 64 - s + s = 64 by omega], Nat.mul_div_mul_right _ _ (Nat.two_pow_pos s)]
  have e3 : lo / 2 ^ (64 - s) < 2 ^ s := by
    refine (Nat.div_lt_iff_lt_mul (Nat.two_pow_pos _)).2 ?_
    rw [← Nat.pow_add, show s + (64 - s) = 64 by omega]; exact hl
  rw [e1, e2]
  generalize lo / 2 ^ (64 - s) = l at *
  have e4 : hi * 2 ^ s + l = (hi * 2 ^ s) ||| l := by rw [← Nat.shiftLeft_eq]; exact Nat.shiftLeft_add_eq_or_of_lt e3 hi
  rw [e4]
  exact bits_or_u64_nat _ _ hh (Nat.lt_of_lt_of_le e3 (by have := Nat.pow_le_pow_right (n := 2) (by omega) hs; exact Nat.le_trans this (by decide)))
theorem up_lt {hi lo y s : Nat} (h1 : hi < y) (hl : lo < 18446744073709551616) : hi * 2 ^ s + lo * 2 ^ s / 18446744073709551616 < y * 2 ^ s := by
  have h2 : (hi + 1) * 2 ^ s ≤ y * 2 ^ s := Nat.mul_le_mul_right _ h1
  have h3 : lo * 2 ^ s / 18446744073709551616 < 2 ^ s := by
    refine (Nat.div_lt_iff_lt_mul (by omega)).2 ?_
    rw [Nat.mul_comm]
    exact Nat.mul_lt_mul_of_pos_left hl (Nat.two_pow_pos s)
  rw [Nat.add_mul] at h2
  omega
theorem up_eq (hi lo s : Nat) : ((hi * 2 ^ s + lo * 2 ^ s / 18446744073709551616) * 4294967296 + lo * 2 ^ s % 18446744073709551616 / 4294967296) * 4294967296 + lo * 2 ^ s % 18446744073709551616 % 4294967296 = (hi * 18446744073709551616 + lo) * 2 ^ s := by
  have h1 := Nat.div_add_mod (lo * 2 ^ s) 18446744073709551616
  rw [Nat.add_mul (hi * 18446744073709551616) lo, Nat.mul_right_comm hi 18446744073709551616]
  generalize lo * 2 ^ s = m at *
  generalize hi * 2 ^ s = n at *
  omega
theorem dv_left' {U V Y q M : Nat} (hY : 0 < Y) (hM : Y ≤ M) (hq : q = (U * 4294967296 + V) / Y) (eM : M = 18446744073709551616 := by rfl) :
    IntKind.u64.wrap (IntKind.u64.wrap (IntKind.u64.wrap ((U : Int) * 4294967296) + (V : Int)) - IntKind.u64.wrap ((q : Int) * (Y : Int))) = (((U * 4294967296 + V) % Y : Nat) : Int) := by
  have h := dv_left hY hM hq
  rw [eM] at h
  rw [IntKind.wrap_u64, IntKind.wrap_u64, IntKind.wrap_u64, IntKind.wrap_u64, ← h]
  have e1 : ((U : Int) * 4294967296 % 18446744073709551616 + (V : Int)) % 18446744073709551616 = ((U * 4294967296 % 18446744073709551616 + V) % 18446744073709551616 : Nat) := by simp
  have e2 : ((q : Int) * (Y : Int)) % 18446744073709551616 = ((q * Y % 18446744073709551616 : Nat) : Int) := by simp
  rw [e1, e2]
  rfl
set_option maxHeartbeats 16000000 in
set_option maxRecDepth 100000 in
theorem div64_c (hi lo y : Nat) (h0 : 0 < hi) (h1 : hi < y) (hl : lo < 18446744073709551616) (hy : y < 18446744073709551616) (w : World) : Calls Try.prog 109 #[.int .u64 hi, .int .u64 lo, .int .u64 y] w fun e w' =>
    e = .returned (.tuple #[.int .u64 (((hi * 18446744073709551616 + lo) / y : Nat) : Int), .int .u64 (((hi * 18446744073709551616 + lo) % y : Nat) : Int)]) ∧ Below w.heap.size w w' := by
  have d1 : ((y : Int) == 0) = false := beq_eq_false_iff_ne.2 (by omega)
  have d2 : decide (y ≤ hi) = false := decide_eq_false (by omega)
  have d3 : ((hi : Int) == 0) = false := beq_eq_false_iff_ne.2 (by omega)
  obtain ⟨s, hs⟩ : ∃ s, Lib.bitLen y + s = 64 := ⟨64 - Lib.bitLen y, by have := Lib.bitLen_le y 64 (by omega) (by omega); omega⟩
  obtain ⟨hs1, hY1, hY2⟩ := norm_y (by omega) hy hs
  have LZ := Aside0.mk (lz_c y s hs hy)
  obtain ⟨Y, eY⟩ : ∃ Y, Y = y * 2 ^ s := ⟨_, rfl⟩
  rw [← eY] at hY1 hY2
  obtain ⟨a, ea⟩ : ∃ a, a = Y / 4294967296 := ⟨_, rfl⟩
  obtain ⟨b, eb⟩ : ∃ b, b = Y % 4294967296 := ⟨_, rfl⟩
  obtain ⟨U, eU⟩ : ∃ U, U = hi * 2 ^ s + lo * 2 ^ s / 18446744073709551616 := ⟨_, rfl⟩
  obtain ⟨T, eT⟩ : ∃ T, T = lo * 2 ^ s % 18446744073709551616 := ⟨_, rfl⟩
  obtain ⟨V1, eV1⟩ : ∃ V1, V1 = T / 4294967296 := ⟨_, rfl⟩
  obtain ⟨V0, eV0⟩ : ∃ V0, V0 = T % 4294967296 := ⟨_, rfl⟩
  have hUY : U < Y := by rw [eU, eY]; exact up_lt h1 hl
  have ha1 : 2147483648 ≤ a := by omega
  have ha2 : a < 4294967296 := by omega
  have hb1 : b < 4294967296 := by omega
  have hV1 : V1 < 4294967296 := by omega
  have hV0 : V0 < 4294967296 := by omega
  have hYab : a * 4294967296 + b = Y := by omega
  have E1 : IntKind.u64.wrap ((y : Int) * 2 ^ min (IntKind.u64.wrap (s : Int)).toNat 64) = (Y : Int) := by rw [shl_eq y s hs1, ← eY, Nat.mod_eq_of_lt hY2]
  have E2 : (Y : Int) / 4294967296 = (a : Int) := by omega
  have E3 : bits .and .u64 (Y : Int) 4294967295 = (b : Int) := by rw [Mul64.maskN Y hY2, eb]
  have E4 : bits .or .u64 (IntKind.u64.wrap ((hi : Int) * 2 ^ min (IntKind.u64.wrap (s : Int)).toNat 64)) ((lo : Int) / 2 ^ min (IntKind.u64.wrap (64 - IntKind.u64.wrap (s : Int))).toNat 64) = (U : Int) := by rw [eU]; exact or_eq hi lo s hs1 (by have : hi * 2 ^ s ≤ y * 2 ^ s := Nat.mul_le_mul_right _ (Nat.le_of_lt h1); omega) hl
  have E5 : IntKind.u64.wrap ((lo : Int) * 2 ^ min (IntKind.u64.wrap (s : Int)).toNat 64) = (T : Int) := by rw [shl_eq lo s hs1, ← eT]
  have E6 : (T : Int) / 4294967296 = (V1 : Int) := by omega
  have E7 : bits .and .u64 (T : Int) 4294967295 = (V0 : Int) := by rw [Mul64.maskN T (by omega), eV0]
  obtain ⟨f1, f2, f3, f4⟩ := dv_first ha1 ha2 hb1 (by omega) hV1 (U := U)
  rw [hYab] at f1
  obtain ⟨q, eq_⟩ : ∃ q, q = U / a := ⟨_, rfl⟩
  obtain ⟨r, er_⟩ : ∃ r, r = U % a := ⟨_, rfl⟩
  rw [← eq_] at f1 f2 f3
  rw [← er_] at f3 f4
  have hqa : q * a ≤ U := by omega
  have E8 : IntKind.u64.wrap ((U : Int) / (a : Int)) = (q : Int) := by
    rw [← Int.natCast_ediv, ← eq_]; exact wrapC q (by omega)
  have E9 : IntKind.u64.wrap ((q : Int) * (a : Int)) = ((q * a : Nat) : Int) := by rw [← Int.natCast_mul]; exact wrapC _ (by omega)
  have E10 : IntKind.u64.wrap ((U : Int) - (q : Int) * (a : Int)) = (r : Int) := by
    rw [← Int.natCast_mul, show (U : Int) - ((q * a : Nat) : Int) = (r : Int) by omega]; exact wrapC r (by omega)
  have ane : ((a : Int) = 0) = False := by simp; omega
  have F1 := Aside0.mk f1
  have F2 := Aside0.mk f2
  have F3 := Aside0.mk f3
  have F4 := Aside0.mk f4
  have HY := Aside0.mk eY
  have HUT := Aside0.mk eU
  have HT := Aside0.mk eT
  have HV1 := Aside0.mk eV1
  have HV0 := Aside0.mk eV0
  have HAB := Aside0.mk hYab
  have HUY := Aside0.mk hUY
  have HS63 := Aside0.mk hs1
  have HY0 := Aside0.mk (show 0 < y by omega)
  have HUV := Aside0.mk (show (U * 4294967296 + V1) * 4294967296 + V0 = (hi * 18446744073709551616 + lo) * 2 ^ s from by rw [eV1, eV0, eU, eT]; exact up_eq hi lo s)
  clear hs eY ea eb eU eT eV1 eV0 eq_ er_ f1 f2 f3 f4 hYab hqa h0 h1 hl hy hs1 hUY
  go_enter Try.func109, Try.ntmps109
  go_wp2_with (go_at_call 130; (with_reducible refine (LZ.out _).mono ?_); rintro e w1 ⟨rfl, rfl⟩)
  clear E1 E2 E3 E4 E5 E6 E7 E8 E9 E10 LZ ane
  have hYp : 0 < Y := by omega
  have hQd := dv_digit (K := 4294967296) HUY.out hV1
  obtain ⟨Qd, eQd⟩ : ∃ Qd, Qd = (U * 4294967296 + V1) / Y := ⟨_, rfl⟩
  obtain ⟨U2, eU2⟩ : ∃ U2, U2 = (U * 4294967296 + V1) % Y := ⟨_, rfl⟩
  have hU2 : U2 < Y := by rw [eU2]; exact Nat.mod_lt _ hYp
  rw [← eQd] at hQd
  have G11 := dv_left' (M := 18446744073709551616) hYp (Nat.le_of_lt hY2) eQd
  rw [← eU2] at G11
  obtain ⟨f1, f2, f3, f4⟩ := dv_first ha1 ha2 hb1 (by rw [HAB.out]; exact hU2) hV0 (U := U2)
  rw [HAB.out] at f1
  obtain ⟨p, ep⟩ : ∃ p, p = U2 / a := ⟨_, rfl⟩
  obtain ⟨r2, er2⟩ : ∃ r2, r2 = U2 % a := ⟨_, rfl⟩
  rw [← ep] at f1 f2 f3
  rw [← er2] at f3 f4
  have hpa : p * a ≤ U2 := by omega
  have G12 : IntKind.u64.wrap ((U2 : Int) / (a : Int)) = (p : Int) := by
    rw [← Int.natCast_ediv, ← ep]; exact wrapC p (by omega)
  have G13 : IntKind.u64.wrap ((p : Int) * (a : Int)) = (p : Int) * (a : Int) := by rw [← Int.natCast_mul]; exact wrapC _ (by omega)
  have G14 : IntKind.u64.wrap ((U2 : Int) - (p : Int) * (a : Int)) = (r2 : Int) := by
    rw [← Int.natCast_mul, show (U2 : Int) - ((p * a : Nat) : Int) = (r2 : Int) by omega]; exact wrapC r2 (by omega)
  have ane : ((a : Int) = 0) = False := by simp; omega
  have hPd := dv_digit (K := 4294967296) hU2 hV0
  obtain ⟨Pd, ePd⟩ : ∃ Pd, Pd = (U2 * 4294967296 + V0) / Y := ⟨_, rfl⟩
  rw [← ePd] at hPd
  obtain ⟨R, eR⟩ : ∃ R, R = (U2 * 4294967296 + V0) % Y := ⟨_, rfl⟩
  have hR : R < Y := by rw [eR]; exact Nat.mod_lt _ hYp
  have HU2Y := Aside0.mk hU2
  have G21 := dv_left' (M := 18446744073709551616) hYp (Nat.le_of_lt hY2) ePd
  rw [← eR] at G21
  have hfin := dv_two (y := y) (s := s) (hi := hi) (lo := lo) (Y := Y) (U1 := U) (V1 := V1) (V0 := V0) (q1 := Qd) (q0 := Pd) HY0.out HY.out HUV.out eQd (by rw [← eU2]; exact ePd)
  rw [← eU2, ← eR] at hfin
  have G22 : IntKind.u64.wrap (IntKind.u64.wrap ((Qd : Int) * 4294967296) + (Pd : Int)) = (((hi * 18446744073709551616 + lo) / y : Nat) : Int) := by
    rw [show (Qd : Int) * 4294967296 = ((Qd * 4294967296 : Nat) : Int) by simp, wrapC _ (by omega), ← Int.natCast_add, hfin.1, ← hfin.1]; exact wrapC _ (by omega)
  have G23 : (R : Int) / 2 ^ min (IntKind.u64.wrap (s : Int)).toNat 64 = (((hi * 18446744073709551616 + lo) % y : Nat) : Int) := by
    rw [wrapC s (by have := HS63.out; omega), Int.toNat_natCast, Nat.min_eq_left (by have := HS63.out; omega), ← hfin.2]; simp
  have P1 := Aside0.mk f1
  have P2 := Aside0.mk f2
  have P3 := Aside0.mk f3
  have P4 := Aside0.mk f4
  have EQD := Aside0.mk eQd
  have EPD := Aside0.mk ePd
  clear f1 f2 f3 f4 ep er2 hpa eU2 eR ePd eQd hfin hU2 hQd hPd hR
  have G11_ := Aside0.mk (And.intro G11 (And.intro G12 (And.intro G13 (And.intro G14 (And.intro ane (And.intro G21 (And.intro G22 G23)))))))
  clear G11 G12 G13 G14 ane G21 G22 G23
  go_loop [15, 16] (fun s15 s16 => ∃ q r : Nat, s15 = .int .u64 q ∧ s16 = .int .u64 r ∧ Aside0 (q * a + r = U) ∧ Aside0 ((U * 4294967296 + V1) / Y ≤ q) ∧ Aside0 (q ≤ 4294967297) ∧ Aside0 (r < 4294967296)) (fun _ s16 => 4294967296 - (intOf s16).toNat)
  case atStart => exact ⟨q, r, rfl, rfl, F3, F1, F2, ⟨by have := F4.out; omega⟩⟩
  case round =>
    obtain ⟨q, r, rfl, rfl, G1, G2, G3, G4⟩ := hrel
    clear F1 F2 F3 F4
    by_cases c0 : 4294967296 ≤ q ∨ 4294967296 * r + V1 < q * b
    · have hgt : Qd < q := by
        rcases c0 with c0 | c0
        · have := dv_digit (K := 4294967296) HUY.out hV1
          rw [← EQD.out] at this; omega
        · have := dv_gt (K := 4294967296) (V := V1) G1.out (by omega) c0
          rw [HAB.out, ← EQD.out] at this; exact this
      have hq1 : IntKind.u64.wrap ((q : Int) - 1) = ((q - 1 : Nat) : Int) := by rw [show (q : Int) - 1 = ((q - 1 : Nat) : Int) by omega]; exact wrapC _ (by have := G3.out; omega)
      have hr1 : IntKind.u64.wrap ((r : Int) + (a : Int)) = (r : Int) + (a : Int) := by rw [← Int.natCast_add]; exact wrapC _ (by have := G4.out; omega)
      have hn1 : (q - 1) * a + (r + a) = U := by
        have h1 := G1.out
        have h2 : q * a = (q - 1) * a + a := by
          obtain ⟨m, rfl⟩ : ∃ m, q = m + 1 := ⟨q - 1, by omega⟩
          rw [Nat.add_sub_cancel, Nat.add_mul, Nat.one_mul]
        omega
      have hle : Qd ≤ q - 1 := by omega
      have HN := Aside0.mk hn1
      have HL := Aside0.mk hle
      have k1 : decide ((4294967296 : Int) ≤ (q : Int)) = decide (4294967296 ≤ q) := decide_eq_decide.2 (by omega)
      by_cases c4 : 4294967296 ≤ q
      · have k2 : decide (4294967296 ≤ q) = true := decide_eq_true c4
        rw [k2] at k1
        have HC := Aside0.mk c4
        clear c0 c4 hn1 hle hgt
        by_cases c1 : 4294967296 ≤ r + a
        · have hD : q - 1 = Qd := by
            have := dv_break (V := V1) HN.out (by omega) (by rw [HAB.out, ← EQD.out]; exact HL.out) hb1 (by have := G3.out; omega) c1
            rw [HAB.out, ← EQD.out] at this; exact this
          rw [hD] at hq1
          have k3 : decide ((4294967296 : Int) ≤ (r : Int) + (a : Int)) = true := decide_eq_true (by omega)
          have k4 : decide (4294967296 ≤ r + a) = true := decide_eq_true c1
          clear c1 hD
          obtain ⟨G11, G12, G13, G14, ane, G21, G22, G23⟩ := G11_.out
          have HX := Aside0.mk (And.intro G21 (And.intro G22 G23))
          clear G21 G22 G23 G1 G2 G3 G4
          go_wp2
          clear G11 G12 G13 G14 ane
          obtain ⟨G21, G22, G23⟩ := HX.out
          clear HX
          go_loop [18, 16] (fun s18 s16 => ∃ q r : Nat, s18 = .int .u64 q ∧ s16 = .int .u64 r ∧ Aside0 (q * a + r = U2) ∧ Aside0 ((U2 * 4294967296 + V0) / Y ≤ q) ∧ Aside0 (q ≤ 4294967297) ∧ Aside0 (r < 4294967296)) (fun _ s16 => 4294967296 - (intOf s16).toNat)
          case atStart => exact ⟨p, r2, rfl, rfl, P3, P1, P2, ⟨by have := P4.out; omega⟩⟩
          case round =>
            obtain ⟨q, r, rfl, rfl, G1, G2, G3, G4⟩ := hrel
            by_cases c0 : 4294967296 ≤ q ∨ 4294967296 * r + V0 < q * b
            · have hgt : Pd < q := by
                rcases c0 with c0 | c0
                · have := dv_digit (K := 4294967296) HU2Y.out hV0
                  rw [← EPD.out] at this; omega
                · have := dv_gt (K := 4294967296) (V := V0) G1.out (by omega) c0
                  rw [HAB.out, ← EPD.out] at this; exact this
              have hq1 : IntKind.u64.wrap ((q : Int) - 1) = ((q - 1 : Nat) : Int) := by rw [show (q : Int) - 1 = ((q - 1 : Nat) : Int) by omega]; exact wrapC _ (by have := G3.out; omega)
              have hr1 : IntKind.u64.wrap ((r : Int) + (a : Int)) = (r : Int) + (a : Int) := by rw [← Int.natCast_add]; exact wrapC _ (by have := G4.out; omega)
              have hn1 : (q - 1) * a + (r + a) = U2 := by
                have h1 := G1.out
                have h2 : q * a = (q - 1) * a + a := by
                  obtain ⟨m, rfl⟩ : ∃ m, q = m + 1 := ⟨q - 1, by omega⟩
                  rw [Nat.add_sub_cancel, Nat.add_mul, Nat.one_mul]
                omega
              have hle : Pd ≤ q - 1 := by omega
              have HN := Aside0.mk hn1
              have HL := Aside0.mk hle
              have k1 : decide ((4294967296 : Int) ≤ (q : Int)) = decide (4294967296 ≤ q) := decide_eq_decide.2 (by omega)
              by_cases c4 : 4294967296 ≤ q
              · have k2 : decide (4294967296 ≤ q) = true := decide_eq_true c4
                rw [k2] at k1
                have HC := Aside0.mk c4
                clear c0 c4 hn1 hle hgt
                by_cases c1 : 4294967296 ≤ r + a
                · have hD : q - 1 = Pd := by
                    have := dv_break (V := V0) HN.out (by omega) (by rw [HAB.out, ← EPD.out]; exact HL.out) hb1 (by have := G3.out; omega) c1
                    rw [HAB.out, ← EPD.out] at this; exact this
                  rw [hD] at hq1
                  have k3 : decide ((4294967296 : Int) ≤ (r : Int) + (a : Int)) = true := decide_eq_true (by omega)
                  have k4 : decide (4294967296 ≤ r + a) = true := decide_eq_true c1
                  clear c1 hD
                  go_wp2
                  go_ret2
                  exact ⟨rfl, Below.refl _ _⟩
                · have k3 : decide ((4294967296 : Int) ≤ (r : Int) + (a : Int)) = false := decide_eq_false (by omega)
                  have k4 : decide (4294967296 ≤ r + a) = false := decide_eq_false c1
                  have HC1 := Aside0.mk c1
                  clear c1
                  go_wp2
                  refine ⟨⟨q - 1, r + a, rfl, by rw [← Int.natCast_add], HN, ⟨by rw [← EPD.out]; exact HL.out⟩, ⟨by have := G3.out; omega⟩, ⟨by have := HC1.out; omega⟩⟩, ?_⟩
                  simp only [intOf]
                  have := HC1.out
                  omega
              · have k2 : decide (4294967296 ≤ q) = false := decide_eq_false c4
                rw [k2] at k1
                have hc : 4294967296 * r + V0 < q * b := by omega
                have hqb : q * b < 18446744073709551616 := by
                  have : q * b ≤ 4294967295 * b := Nat.mul_le_mul_right _ (by omega)
                  omega
                have m1 : IntKind.u64.wrap ((q : Int) * (b : Int)) = (q : Int) * (b : Int) := by rw [← Int.natCast_mul]; exact wrapC _ hqb
                have m2 : IntKind.u64.wrap (4294967296 * (r : Int)) = 4294967296 * (r : Int) := by
                  rw [show (4294967296 * (r : Int)) = ((4294967296 * r : Nat) : Int) by simp]; exact wrapC _ (by have := G4.out; omega)
                have m3 : IntKind.u64.wrap (4294967296 * (r : Int) + (V0 : Int)) = 4294967296 * (r : Int) + (V0 : Int) := by
                  rw [show (4294967296 * (r : Int) + (V0 : Int)) = ((4294967296 * r + V0 : Nat) : Int) by simp]; exact wrapC _ (by have := G4.out; omega)
                have m4 : decide (4294967296 * (r : Int) + (V0 : Int) < (q : Int) * (b : Int)) = true := decide_eq_true (by rw [← Int.natCast_mul]; omega)
                have HC := Aside0.mk hc
                clear c0 c4 hn1 hle hgt hc hqb
                by_cases c1 : 4294967296 ≤ r + a
                · have hD : q - 1 = Pd := by
                    have := dv_break (V := V0) HN.out (by omega) (by rw [HAB.out, ← EPD.out]; exact HL.out) hb1 (by have := G3.out; omega) c1
                    rw [HAB.out, ← EPD.out] at this; exact this
                  rw [hD] at hq1
                  have k3 : decide ((4294967296 : Int) ≤ (r : Int) + (a : Int)) = true := decide_eq_true (by omega)
                  have k4 : decide (4294967296 ≤ r + a) = true := decide_eq_true c1
                  clear c1 hD
                  go_wp2
                  go_ret2
                  exact ⟨rfl, Below.refl _ _⟩
                · have k3 : decide ((4294967296 : Int) ≤ (r : Int) + (a : Int)) = false := decide_eq_false (by omega)
                  have k4 : decide (4294967296 ≤ r + a) = false := decide_eq_false c1
                  have HC1 := Aside0.mk c1
                  clear c1
                  go_wp2
                  refine ⟨⟨q - 1, r + a, rfl, by rw [← Int.natCast_add], HN, ⟨by rw [← EPD.out]; exact HL.out⟩, ⟨by have := G3.out; omega⟩, ⟨by have := HC1.out; omega⟩⟩, ?_⟩
                  simp only [intOf]
                  have := HC1.out
                  omega
            · have c1 : q < 4294967296 := by omega
              have c2 : q * b ≤ 4294967296 * r + V0 := by omega
              have hD : q = Pd := by
                have := dv_done (K := 4294967296) (V := V0) (by omega) G1.out (by rw [HAB.out]; exact G2.out) (by omega) c2
                rw [HAB.out, ← EPD.out] at this; exact this
              have hqb : q * b < 18446744073709551616 := by
                have : q * b ≤ 4294967295 * b := Nat.mul_le_mul_right _ (by omega)
                omega
              have k1 : decide ((4294967296 : Int) ≤ (q : Int)) = false := decide_eq_false (by omega)
              have k2 : decide (4294967296 ≤ q) = false := decide_eq_false (by omega)
              have m1 : IntKind.u64.wrap ((q : Int) * (b : Int)) = (q : Int) * (b : Int) := by rw [← Int.natCast_mul]; exact wrapC _ hqb
              have m2 : IntKind.u64.wrap (4294967296 * (r : Int)) = 4294967296 * (r : Int) := by
                rw [show (4294967296 * (r : Int)) = ((4294967296 * r : Nat) : Int) by simp]; exact wrapC _ (by have := G4.out; omega)
              have m3 : IntKind.u64.wrap (4294967296 * (r : Int) + (V0 : Int)) = 4294967296 * (r : Int) + (V0 : Int) := by
                rw [show (4294967296 * (r : Int) + (V0 : Int)) = ((4294967296 * r + V0 : Nat) : Int) by simp]; exact wrapC _ (by have := G4.out; omega)
              have m4 : decide (4294967296 * (r : Int) + (V0 : Int) < (q : Int) * (b : Int)) = false := decide_eq_false (by rw [← Int.natCast_mul]; omega)
              clear c0 c1 c2 hqb
              subst hD
              go_wp2
              go_ret2
              exact ⟨rfl, Below.refl _ _⟩

        · have k3 : decide ((4294967296 : Int) ≤ (r : Int) + (a : Int)) = false := decide_eq_false (by omega)
          have k4 : decide (4294967296 ≤ r + a) = false := decide_eq_false c1
          have HC1 := Aside0.mk c1
          clear c1
          go_wp2
          refine ⟨⟨q - 1, r + a, rfl, by rw [← Int.natCast_add], HN, ⟨by rw [← EQD.out]; exact HL.out⟩, ⟨by have := G3.out; omega⟩, ⟨by have := HC1.out; omega⟩⟩, ?_⟩
          simp only [intOf]
          have := HC1.out
          omega
      · have k2 : decide (4294967296 ≤ q) = false := decide_eq_false c4
        rw [k2] at k1
        have hc : 4294967296 * r + V1 < q * b := by omega
        have hqb : q * b < 18446744073709551616 := by
          have : q * b ≤ 4294967295 * b := Nat.mul_le_mul_right _ (by omega)
          omega
        have m1 : IntKind.u64.wrap ((q : Int) * (b : Int)) = (q : Int) * (b : Int) := by rw [← Int.natCast_mul]; exact wrapC _ hqb
        have m2 : IntKind.u64.wrap (4294967296 * (r : Int)) = 4294967296 * (r : Int) := by
          rw [show (4294967296 * (r : Int)) = ((4294967296 * r : Nat) : Int) by simp]; exact wrapC _ (by have := G4.out; omega)
        have m3 : IntKind.u64.wrap (4294967296 * (r : Int) + (V1 : Int)) = 4294967296 * (r : Int) + (V1 : Int) := by
          rw [show (4294967296 * (r : Int) + (V1 : Int)) = ((4294967296 * r + V1 : Nat) : Int) by simp]; exact wrapC _ (by have := G4.out; omega)
        have m4 : decide (4294967296 * (r : Int) + (V1 : Int) < (q : Int) * (b : Int)) = true := decide_eq_true (by rw [← Int.natCast_mul]; omega)
        have HC := Aside0.mk hc
        clear c0 c4 hn1 hle hgt hc hqb
        by_cases c1 : 4294967296 ≤ r + a
        · have hD : q - 1 = Qd := by
            have := dv_break (V := V1) HN.out (by omega) (by rw [HAB.out, ← EQD.out]; exact HL.out) hb1 (by have := G3.out; omega) c1
            rw [HAB.out, ← EQD.out] at this; exact this
          rw [hD] at hq1
          have k3 : decide ((4294967296 : Int) ≤ (r : Int) + (a : Int)) = true := decide_eq_true (by omega)
          have k4 : decide (4294967296 ≤ r + a) = true := decide_eq_true c1
          clear c1 hD
          obtain ⟨G11, G12, G13, G14, ane, G21, G22, G23⟩ := G11_.out
          have HX := Aside0.mk (And.intro G21 (And.intro G22 G23))
          clear G21 G22 G23 G1 G2 G3 G4
          go_wp2
          clear G11 G12 G13 G14 ane
          obtain ⟨G21, G22, G23⟩ := HX.out
          clear HX
          go_loop [18, 16] (fun s18 s16 => ∃ q r : Nat, s18 = .int .u64 q ∧ s16 = .int .u64 r ∧ Aside0 (q * a + r = U2) ∧ Aside0 ((U2 * 4294967296 + V0) / Y ≤ q) ∧ Aside0 (q ≤ 4294967297) ∧ Aside0 (r < 4294967296)) (fun _ s16 => 4294967296 - (intOf s16).toNat)
          case atStart => exact ⟨p, r2, rfl, rfl, P3, P1, P2, ⟨by have := P4.out; omega⟩⟩
          case round =>
            obtain ⟨q, r, rfl, rfl, G1, G2, G3, G4⟩ := hrel
            by_cases c0 : 4294967296 ≤ q ∨ 4294967296 * r + V0 < q * b
            · have hgt : Pd < q := by
                rcases c0 with c0 | c0
                · have := dv_digit (K := 4294967296) HU2Y.out hV0
                  rw [← EPD.out] at this; omega
                · have := dv_gt (K := 4294967296) (V := V0) G1.out (by omega) c0
                  rw [HAB.out, ← EPD.out] at this; exact this
              have hq1 : IntKind.u64.wrap ((q : Int) - 1) = ((q - 1 : Nat) : Int) := by rw [show (q : Int) - 1 = ((q - 1 : Nat) : Int) by omega]; exact wrapC _ (by have := G3.out; omega)
              have hr1 : IntKind.u64.wrap ((r : Int) + (a : Int)) = (r : Int) + (a : Int) := by rw [← Int.natCast_add]; exact wrapC _ (by have := G4.out; omega)
              have hn1 : (q - 1) * a + (r + a) = U2 := by
                have h1 := G1.out
                have h2 : q * a = (q - 1) * a + a := by
                  obtain ⟨m, rfl⟩ : ∃ m, q = m + 1 := ⟨q - 1, by omega⟩
                  rw [Nat.add_sub_cancel, Nat.add_mul, Nat.one_mul]
                omega
              have hle : Pd ≤ q - 1 := by omega
              have HN := Aside0.mk hn1
              have HL := Aside0.mk hle
              have k1 : decide ((4294967296 : Int) ≤ (q : Int)) = decide (4294967296 ≤ q) := decide_eq_decide.2 (by omega)
              by_cases c4 : 4294967296 ≤ q
              · have k2 : decide (4294967296 ≤ q) = true := decide_eq_true c4
                rw [k2] at k1
                have HC := Aside0.mk c4
                clear c0 c4 hn1 hle hgt
                by_cases c1 : 4294967296 ≤ r + a
                · have hD : q - 1 = Pd := by
                    have := dv_break (V := V0) HN.out (by omega) (by rw [HAB.out, ← EPD.out]; exact HL.out) hb1 (by have := G3.out; omega) c1
                    rw [HAB.out, ← EPD.out] at this; exact this
                  rw [hD] at hq1
                  have k3 : decide ((4294967296 : Int) ≤ (r : Int) + (a : Int)) = true := decide_eq_true (by omega)
                  have k4 : decide (4294967296 ≤ r + a) = true := decide_eq_true c1
                  clear c1 hD
                  go_wp2
                  go_ret2
                  exact ⟨rfl, Below.refl _ _⟩
                · have k3 : decide ((4294967296 : Int) ≤ (r : Int) + (a : Int)) = false := decide_eq_false (by omega)
                  have k4 : decide (4294967296 ≤ r + a) = false := decide_eq_false c1
                  have HC1 := Aside0.mk c1
                  clear c1
                  go_wp2
                  refine ⟨⟨q - 1, r + a, rfl, by rw [← Int.natCast_add], HN, ⟨by rw [← EPD.out]; exact HL.out⟩, ⟨by have := G3.out; omega⟩, ⟨by have := HC1.out; omega⟩⟩, ?_⟩
                  simp only [intOf]
                  have := HC1.out
                  omega
              · have k2 : decide (4294967296 ≤ q) = false := decide_eq_false c4
                rw [k2] at k1
                have hc : 4294967296 * r + V0 < q * b := by omega
                have hqb : q * b < 18446744073709551616 := by
                  have : q * b ≤ 4294967295 * b := Nat.mul_le_mul_right _ (by omega)
                  omega
                have m1 : IntKind.u64.wrap ((q : Int) * (b : Int)) = (q : Int) * (b : Int) := by rw [← Int.natCast_mul]; exact wrapC _ hqb
                have m2 : IntKind.u64.wrap (4294967296 * (r : Int)) = 4294967296 * (r : Int) := by
                  rw [show (4294967296 * (r : Int)) = ((4294967296 * r : Nat) : Int) by simp]; exact wrapC _ (by have := G4.out; omega)
                have m3 : IntKind.u64.wrap (4294967296 * (r : Int) + (V0 : Int)) = 4294967296 * (r : Int) + (V0 : Int) := by
                  rw [show (4294967296 * (r : Int) + (V0 : Int)) = ((4294967296 * r + V0 : Nat) : Int) by simp]; exact wrapC _ (by have := G4.out; omega)
                have m4 : decide (4294967296 * (r : Int) + (V0 : Int) < (q : Int) * (b : Int)) = true := decide_eq_true (by rw [← Int.natCast_mul]; omega)
                have HC := Aside0.mk hc
                clear c0 c4 hn1 hle hgt hc hqb
                by_cases c1 : 4294967296 ≤ r + a
                · have hD : q - 1 = Pd := by
                    have := dv_break (V := V0) HN.out (by omega) (by rw [HAB.out, ← EPD.out]; exact HL.out) hb1 (by have := G3.out; omega) c1
                    rw [HAB.out, ← EPD.out] at this; exact this
                  rw [hD] at hq1
                  have k3 : decide ((4294967296 : Int) ≤ (r : Int) + (a : Int)) = true := decide_eq_true (by omega)
                  have k4 : decide (4294967296 ≤ r + a) = true := decide_eq_true c1
                  clear c1 hD
                  go_wp2
                  go_ret2
                  exact ⟨rfl, Below.refl _ _⟩
                · have k3 : decide ((4294967296 : Int) ≤ (r : Int) + (a : Int)) = false := decide_eq_false (by omega)
                  have k4 : decide (4294967296 ≤ r + a) = false := decide_eq_false c1
                  have HC1 := Aside0.mk c1
                  clear c1
                  go_wp2
                  refine ⟨⟨q - 1, r + a, rfl, by rw [← Int.natCast_add], HN, ⟨by rw [← EPD.out]; exact HL.out⟩, ⟨by have := G3.out; omega⟩, ⟨by have := HC1.out; omega⟩⟩, ?_⟩
                  simp only [intOf]
                  have := HC1.out
                  omega
            · have c1 : q < 4294967296 := by omega
              have c2 : q * b ≤ 4294967296 * r + V0 := by omega
              have hD : q = Pd := by
                have := dv_done (K := 4294967296) (V := V0) (by omega) G1.out (by rw [HAB.out]; exact G2.out) (by omega) c2
                rw [HAB.out, ← EPD.out] at this; exact this
              have hqb : q * b < 18446744073709551616 := by
                have : q * b ≤ 4294967295 * b := Nat.mul_le_mul_right _ (by omega)
                omega
              have k1 : decide ((4294967296 : Int) ≤ (q : Int)) = false := decide_eq_false (by omega)
              have k2 : decide (4294967296 ≤ q) = false := decide_eq_false (by omega)
              have m1 : IntKind.u64.wrap ((q : Int) * (b : Int)) = (q : Int) * (b : Int) := by rw [← Int.natCast_mul]; exact wrapC _ hqb
              have m2 : IntKind.u64.wrap (4294967296 * (r : Int)) = 4294967296 * (r : Int) := by
                rw [show (4294967296 * (r : Int)) = ((4294967296 * r : Nat) : Int) by simp]; exact wrapC _ (by have := G4.out; omega)
              have m3 : IntKind.u64.wrap (4294967296 * (r : Int) + (V0 : Int)) = 4294967296 * (r : Int) + (V0 : Int) := by
                rw [show (4294967296 * (r : Int) + (V0 : Int)) = ((4294967296 * r + V0 : Nat) : Int) by simp]; exact wrapC _ (by have := G4.out; omega)
              have m4 : decide (4294967296 * (r : Int) + (V0 : Int) < (q : Int) * (b : Int)) = false := decide_eq_false (by rw [← Int.natCast_mul]; omega)
              clear c0 c1 c2 hqb
              subst hD
              go_wp2
              go_ret2
              exact ⟨rfl, Below.refl _ _⟩

        · have k3 : decide ((4294967296 : Int) ≤ (r : Int) + (a : Int)) = false := decide_eq_false (by omega)
          have k4 : decide (4294967296 ≤ r + a) = false := decide_eq_false c1
          have HC1 := Aside0.mk c1
          clear c1
          go_wp2
          refine ⟨⟨q - 1, r + a, rfl, by rw [← Int.natCast_add], HN, ⟨by rw [← EQD.out]; exact HL.out⟩, ⟨by have := G3.out; omega⟩, ⟨by have := HC1.out; omega⟩⟩, ?_⟩
          simp only [intOf]
          have := HC1.out
          omega
    · have c1 : q < 4294967296 := by omega
      have c2 : q * b ≤ 4294967296 * r + V1 := by omega
      have hD : q = Qd := by
        have := dv_done (K := 4294967296) (V := V1) (by omega) G1.out (by rw [HAB.out]; exact G2.out) (by omega) c2
        rw [HAB.out, ← EQD.out] at this; exact this
      have hqb : q * b < 18446744073709551616 := by
        have : q * b ≤ 4294967295 * b := Nat.mul_le_mul_right _ (by omega)
        omega
      have k1 : decide ((4294967296 : Int) ≤ (q : Int)) = false := decide_eq_false (by omega)
      have k2 : decide (4294967296 ≤ q) = false := decide_eq_false (by omega)
      have m1 : IntKind.u64.wrap ((q : Int) * (b : Int)) = (q : Int) * (b : Int) := by rw [← Int.natCast_mul]; exact wrapC _ hqb
      have m2 : IntKind.u64.wrap (4294967296 * (r : Int)) = 4294967296 * (r : Int) := by
        rw [show (4294967296 * (r : Int)) = ((4294967296 * r : Nat) : Int) by simp]; exact wrapC _ (by have := G4.out; omega)
      have m3 : IntKind.u64.wrap (4294967296 * (r : Int) + (V1 : Int)) = 4294967296 * (r : Int) + (V1 : Int) := by
        rw [show (4294967296 * (r : Int) + (V1 : Int)) = ((4294967296 * r + V1 : Nat) : Int) by simp]; exact wrapC _ (by have := G4.out; omega)
      have m4 : decide (4294967296 * (r : Int) + (V1 : Int) < (q : Int) * (b : Int)) = false := decide_eq_false (by rw [← Int.natCast_mul]; omega)
      clear c0 c1 c2 hqb
      subst hD
      obtain ⟨G11, G12, G13, G14, ane, G21, G22, G23⟩ := G11_.out
      have HX := Aside0.mk (And.intro G21 (And.intro G22 G23))
      clear G21 G22 G23 G1 G2 G3 G4
      go_wp2
      clear G11 G12 G13 G14 ane
      obtain ⟨G21, G22, G23⟩ := HX.out
      clear HX
      go_loop [18, 16] (fun s18 s16 => ∃ q r : Nat, s18 = .int .u64 q ∧ s16 = .int .u64 r ∧ Aside0 (q * a + r = U2) ∧ Aside0 ((U2 * 4294967296 + V0) / Y ≤ q) ∧ Aside0 (q ≤ 4294967297) ∧ Aside0 (r < 4294967296)) (fun _ s16 => 4294967296 - (intOf s16).toNat)
      case atStart => exact ⟨p, r2, rfl, rfl, P3, P1, P2, ⟨by have := P4.out; omega⟩⟩
      case round =>
        obtain ⟨q, r, rfl, rfl, G1, G2, G3, G4⟩ := hrel
        by_cases c0 : 4294967296 ≤ q ∨ 4294967296 * r + V0 < q * b
        · have hgt : Pd < q := by
            rcases c0 with c0 | c0
            · have := dv_digit (K := 4294967296) HU2Y.out hV0
              rw [← EPD.out] at this; omega
            · have := dv_gt (K := 4294967296) (V := V0) G1.out (by omega) c0
              rw [HAB.out, ← EPD.out] at this; exact this
          have hq1 : IntKind.u64.wrap ((q : Int) - 1) = ((q - 1 : Nat) : Int) := by rw [show (q : Int) - 1 = ((q - 1 : Nat) : Int) by omega]; exact wrapC _ (by have := G3.out; omega)
          have hr1 : IntKind.u64.wrap ((r : Int) + (a : Int)) = (r : Int) + (a : Int) := by rw [← Int.natCast_add]; exact wrapC _ (by have := G4.out; omega)
          have hn1 : (q - 1) * a + (r + a) = U2 := by
            have h1 := G1.out
            have h2 : q * a = (q - 1) * a + a := by
              obtain ⟨m, rfl⟩ : ∃ m, q = m + 1 := ⟨q - 1, by omega⟩
              rw [Nat.add_sub_cancel, Nat.add_mul, Nat.one_mul]
            omega
          have hle : Pd ≤ q - 1 := by omega
          have HN := Aside0.mk hn1
          have HL := Aside0.mk hle
          have k1 : decide ((4294967296 : Int) ≤ (q : Int)) = decide (4294967296 ≤ q) := decide_eq_decide.2 (by omega)
          by_cases c4 : 4294967296 ≤ q
          · have k2 : decide (4294967296 ≤ q) = true := decide_eq_true c4
            rw [k2] at k1
            have HC := Aside0.mk c4
            clear c0 c4 hn1 hle hgt
            by_cases c1 : 4294967296 ≤ r + a
            · have hD : q - 1 = Pd := by
                have := dv_break (V := V0) HN.out (by omega) (by rw [HAB.out, ← EPD.out]; exact HL.out) hb1 (by have := G3.out; omega) c1
                rw [HAB.out, ← EPD.out] at this; exact this
              rw [hD] at hq1
              have k3 : decide ((4294967296 : Int) ≤ (r : Int) + (a : Int)) = true := decide_eq_true (by omega)
              have k4 : decide (4294967296 ≤ r + a) = true := decide_eq_true c1
              clear c1 hD
              go_wp2
              go_ret2
              exact ⟨rfl, Below.refl _ _⟩
            · have k3 : decide ((4294967296 : Int) ≤ (r : Int) + (a : Int)) = false := decide_eq_false (by omega)
              have k4 : decide (4294967296 ≤ r + a) = false := decide_eq_false c1
              have HC1 := Aside0.mk c1
              clear c1
              go_wp2
              refine ⟨⟨q - 1, r + a, rfl, by rw [← Int.natCast_add], HN, ⟨by rw [← EPD.out]; exact HL.out⟩, ⟨by have := G3.out; omega⟩, ⟨by have := HC1.out; omega⟩⟩, ?_⟩
              simp only [intOf]
              have := HC1.out
              omega
          · have k2 : decide (4294967296 ≤ q) = false := decide_eq_false c4
            rw [k2] at k1
            have hc : 4294967296 * r + V0 < q * b := by omega
            have hqb : q * b < 18446744073709551616 := by
              have : q * b ≤ 4294967295 * b := Nat.mul_le_mul_right _ (by omega)
              omega
            have m1 : IntKind.u64.wrap ((q : Int) * (b : Int)) = (q : Int) * (b : Int) := by rw [← Int.natCast_mul]; exact wrapC _ hqb
            have m2 : IntKind.u64.wrap (4294967296 * (r : Int)) = 4294967296 * (r : Int) := by
              rw [show (4294967296 * (r : Int)) = ((4294967296 * r : Nat) : Int) by simp]; exact wrapC _ (by have := G4.out; omega)
            have m3 : IntKind.u64.wrap (4294967296 * (r : Int) + (V0 : Int)) = 4294967296 * (r : Int) + (V0 : Int) := by
              rw [show (4294967296 * (r : Int) + (V0 : Int)) = ((4294967296 * r + V0 : Nat) : Int) by simp]; exact wrapC _ (by have := G4.out; omega)
            have m4 : decide (4294967296 * (r : Int) + (V0 : Int) < (q : Int) * (b : Int)) = true := decide_eq_true (by rw [← Int.natCast_mul]; omega)
            have HC := Aside0.mk hc
            clear c0 c4 hn1 hle hgt hc hqb
            by_cases c1 : 4294967296 ≤ r + a
            · have hD : q - 1 = Pd := by
                have := dv_break (V := V0) HN.out (by omega) (by rw [HAB.out, ← EPD.out]; exact HL.out) hb1 (by have := G3.out; omega) c1
                rw [HAB.out, ← EPD.out] at this; exact this
              rw [hD] at hq1
              have k3 : decide ((4294967296 : Int) ≤ (r : Int) + (a : Int)) = true := decide_eq_true (by omega)
              have k4 : decide (4294967296 ≤ r + a) = true := decide_eq_true c1
              clear c1 hD
              go_wp2
              go_ret2
              exact ⟨rfl, Below.refl _ _⟩
            · have k3 : decide ((4294967296 : Int) ≤ (r : Int) + (a : Int)) = false := decide_eq_false (by omega)
              have k4 : decide (4294967296 ≤ r + a) = false := decide_eq_false c1
              have HC1 := Aside0.mk c1
              clear c1
              go_wp2
              refine ⟨⟨q - 1, r + a, rfl, by rw [← Int.natCast_add], HN, ⟨by rw [← EPD.out]; exact HL.out⟩, ⟨by have := G3.out; omega⟩, ⟨by have := HC1.out; omega⟩⟩, ?_⟩
              simp only [intOf]
              have := HC1.out
              omega
        · have c1 : q < 4294967296 := by omega
          have c2 : q * b ≤ 4294967296 * r + V0 := by omega
          have hD : q = Pd := by
            have := dv_done (K := 4294967296) (V := V0) (by omega) G1.out (by rw [HAB.out]; exact G2.out) (by omega) c2
            rw [HAB.out, ← EPD.out] at this; exact this
          have hqb : q * b < 18446744073709551616 := by
            have : q * b ≤ 4294967295 * b := Nat.mul_le_mul_right _ (by omega)
            omega
          have k1 : decide ((4294967296 : Int) ≤ (q : Int)) = false := decide_eq_false (by omega)
          have k2 : decide (4294967296 ≤ q) = false := decide_eq_false (by omega)
          have m1 : IntKind.u64.wrap ((q : Int) * (b : Int)) = (q : Int) * (b : Int) := by rw [← Int.natCast_mul]; exact wrapC _ hqb
          have m2 : IntKind.u64.wrap (4294967296 * (r : Int)) = 4294967296 * (r : Int) := by
            rw [show (4294967296 * (r : Int)) = ((4294967296 * r : Nat) : Int) by simp]; exact wrapC _ (by have := G4.out; omega)
          have m3 : IntKind.u64.wrap (4294967296 * (r : Int) + (V0 : Int)) = 4294967296 * (r : Int) + (V0 : Int) := by
            rw [show (4294967296 * (r : Int) + (V0 : Int)) = ((4294967296 * r + V0 : Nat) : Int) by simp]; exact wrapC _ (by have := G4.out; omega)
          have m4 : decide (4294967296 * (r : Int) + (V0 : Int) < (q : Int) * (b : Int)) = false := decide_eq_false (by rw [← Int.natCast_mul]; omega)
          clear c0 c1 c2 hqb
          subst hD
          go_wp2
          go_ret2
          exact ⟨rfl, Below.refl _ _⟩
end Go.Proofs.Ytgkplhdcafbfbaa.P
namespace Go.Proofs.Ytgkplhdcafbfbaa.P
open Go.RowKit Go.Shelf Go.Proofs.YtgkplhdcafbfbaaW.PrintWords Go.Proofs.YtgkplhdcafbfbaaW.PrintLast Go.Proofs.YtgkplhdcafbfbaaW.PrintMore
theorem mul64_eq (x y : Nat) (hx : x < 18446744073709551616) (hy : y < 18446744073709551616) : bits_Mul64.f x y = some (((x * y / 18446744073709551616 : Nat) : Int), ((x * y % 18446744073709551616 : Nat) : Int)) := by
  obtain ⟨bd, bt, bw, hhi⟩ := Lib.mul64_hi x y hx hy
  have ba := Lib.half_mul_le (a := x / 4294967296) (b := y / 4294967296) (by omega) (by omega)
  have bb := Lib.half_mul_le (a := x / 4294967296) (b := y % 4294967296) (by omega) (by omega)
  have bc := Lib.half_mul_le (a := x % 4294967296) (b := y / 4294967296) (by omega) (by omega)
  have ba' : x / 4294967296 * (y / 4294967296) < 18446744073709551616 := by omega
  have bb' : x / 4294967296 * (y % 4294967296) < 18446744073709551616 := by omega
  have bc' : x % 4294967296 * (y / 4294967296) < 18446744073709551616 := by omega
  have bh1 : x / 4294967296 * (y / 4294967296) + (x / 4294967296 * (y % 4294967296) + x % 4294967296 * (y % 4294967296) / 4294967296) / 4294967296 < 18446744073709551616 := by omega
  have bh : x / 4294967296 * (y / 4294967296) + (x / 4294967296 * (y % 4294967296) + x % 4294967296 * (y % 4294967296) / 4294967296) / 4294967296 + ((x / 4294967296 * (y % 4294967296) + x % 4294967296 * (y % 4294967296) / 4294967296) % 4294967296 + x % 4294967296 * (y / 4294967296)) / 4294967296 < 18446744073709551616 := by omega
  unfold bits_Mul64.f
  simp only [Mul64.maskN x hx, Mul64.maskN y hy, Mul64.divN, Mul64.mulN, Mul64.addN, Mul64.wrapN _ bd, Mul64.wrapN _ bb', Mul64.wrapN _ bt, Mul64.maskN _ bt, Mul64.wrapN _ bc', Mul64.wrapN _ bw, Mul64.wrapN _ ba', Mul64.wrapN _ bh1, Mul64.wrapN _ bh, Mul64.wrapM (x * y)]
  rw [hhi]
theorem mul64_c (x y : Nat) (hx : x < 18446744073709551616) (hy : y < 18446744073709551616) (w : World) : Calls Try.prog 108 #[.int .u64 x, .int .u64 y] w fun e w' =>
    e = .returned (.tuple #[.int .u64 ((x * y / 18446744073709551616 : Nat) : Int), .int .u64 ((x * y % 18446744073709551616 : Nat) : Int)]) ∧ Below w.heap.size w w' := by
  refine (bits_Mul64.calls x y _ _ w (mul64_eq x y hx hy)).mono ?_
  rintro e w1 ⟨rfl, hd⟩
  exact ⟨rfl, hd.below⟩
set_option maxHeartbeats 8000000 in
set_option maxRecDepth 100000 in
theorem div0_c (lo y : Nat) (hl : lo < 18446744073709551616) (hy : y < 18446744073709551616) (h0 : 0 < y) (w : World) : Calls Try.prog 109 #[.int .u64 0, .int .u64 lo, .int .u64 y] w fun e w' =>
    e = .returned (.tuple #[.int .u64 ((lo / y : Nat) : Int), .int .u64 ((lo % y : Nat) : Int)]) ∧ Below w.heap.size w w' := by
  have d1 : ((y : Int) == 0) = false := beq_eq_false_iff_ne.2 (by omega)
  have d2 : decide ((y : Int) ≤ 0) = false := decide_eq_false (by omega)
  go_enter Try.func109, Try.ntmps109
  go_wp2
  go_quiet (fail)
  go_wp2
  go_ret2
  refine ⟨?_, pw_below_drewN (Below.refl _ _) _⟩
  have e1 : IntKind.u64.wrap ((lo : Int) / (y : Int)) = ((lo / y : Nat) : Int) := by
    have h1 : ((lo : Int) / (y : Int)) = ((lo / y : Nat) : Int) := by simp
    have h2 : lo / y ≤ lo := Nat.div_le_self _ _
    rw [h1]
    exact Mul64.wrapN _ (by omega)
  rw [e1]
  simp
theorem ceil_eq (m d : Nat) (h0 : 0 < d) : ((m : Int) + d - 1) / d = ((m / d : Nat) : Int) + (if m % d = 0 then 0 else 1) := by
  have h1 := Nat.div_add_mod m d
  have h2 := Nat.mod_lt m h0
  generalize m % d = r at *
  generalize m / d = q at *
  have h3 : ((m : Nat) : Int) = (d : Int) * q + r := by rw [← h1]; simp
  rw [h3]
  by_cases z : r = 0
  · rw [if_pos z, z]
    rw [show (d : Int) * q + ((0 : Nat) : Int) + d - 1 = (d - 1 : Int) + d * q by omega, Int.add_mul_ediv_left _ _ (by omega), Int.ediv_eq_zero_of_lt (by omega) (by omega)]
    omega
  · rw [if_neg z]
    rw [show (d : Int) * q + (r : Int) + d - 1 = (r - 1 : Int) + d * (q + 1) by rw [Int.mul_add]; omega, Int.add_mul_ediv_left _ _ (by omega), Int.ediv_eq_zero_of_lt (by omega) (by omega)]
    omega
def rankR (t n d : Int) : Int × Int := if d = 0 ∨ d < n then (0, 11) else ((t * n + d - 1) / d, 0)
set_option maxHeartbeats 8000000 in
set_option maxRecDepth 100000 in
theorem rank_c (t n d : Nat) (ht : t < 18446744073709551616) (hn : n < 18446744073709551616) (hd : d < 18446744073709551616)
    (hdiv : d ≠ 0 → n ≤ d → ∀ w, Calls Try.prog 109 #[.int .u64 ((t * n / 18446744073709551616 : Nat) : Int), .int .u64 ((t * n % 18446744073709551616 : Nat) : Int), .int .u64 d] w fun e w' => e = .returned (.tuple #[.int .u64 ((t * n / d : Nat) : Int), .int .u64 ((t * n % d : Nat) : Int)]) ∧ Below w.heap.size w w')
    (w : World) : Calls Try.prog 76 #[.int .u64 t, .int .u64 n, .int .u64 d] w fun e w' => e = .returned (.tuple #[.int .u64 (rankR t n d).1, .int .i64 (rankR t n d).2]) ∧ Below w.heap.size w w' := by
  unfold rankR
  by_cases c0 : d = 0
  · rw [if_pos (.inl (by omega))]
    have d1 : ((d : Int) == 0) = true := beq_iff_eq.2 (by omega)
    clear hdiv c0
    go_enter Try.func76, Try.ntmps76
    go_wp2
    go_ret2
    exact ⟨rfl, Below.refl _ _⟩
  have d1 : ((d : Int) == 0) = false := beq_eq_false_iff_ne.2 (by omega)
  by_cases c1 : d < n
  · rw [if_pos (.inr (by omega))]
    have d2 : decide (d < n) = true := decide_eq_true c1
    clear hdiv c0 c1
    go_enter Try.func76, Try.ntmps76
    go_wp2
    go_ret2
    exact ⟨rfl, Below.refl _ _⟩
  have d2 : decide (d < n) = false := decide_eq_false c1
  rw [if_neg (by omega)]
  have DV := Aside0.mk (hdiv c0 (by omega))
  have ML := Aside0.mk (mul64_c t n ht hn)
  have hq := ceil_eq (t * n) d (by omega)
  have e_ : ((t : Int) * n) = ((t * n : Nat) : Int) := by simp
  rw [e_, hq]
  have hmod : decide (0 < t * n % d) = decide (t * n % d ≠ 0) := by simp [Nat.pos_iff_ne_zero]
  have hql : t * n / d ≤ t := Nat.div_le_of_le_mul (by rw [Nat.mul_comm]; exact Nat.mul_le_mul_right _ (by omega))
  have hq1 : t * n % d ≠ 0 → t * n / d < t := fun hr => by
    refine Nat.div_lt_of_lt_mul ?_
    rcases Nat.lt_or_ge n d with h1 | h1
    · rw [Nat.mul_comm d t]
      have : 0 < t := by rcases Nat.eq_zero_or_pos t with h | h; (· rw [h] at hr; simp at hr); exact h
      exact Nat.mul_lt_mul_of_pos_left h1 this
    · have : n = d := by omega
      rw [this] at hr
      simp at hr
  generalize t * n / 18446744073709551616 = hi at *
  generalize t * n % 18446744073709551616 = lo at *
  generalize t * n / d = q at *
  generalize t * n % d = r at *
  clear hdiv hq e_ hmod
  by_cases z : r = 0
  · rw [if_pos z]
    clear hq1
    subst z
    go_enter Try.func76, Try.ntmps76
    go_wp2_with (first | (go_at_call 108; (with_reducible refine (ML.out _).mono ?_); rintro e w1 ⟨rfl, hb⟩; have B := Aside0.mk hb; clear hb) | (go_at_call 109; (with_reducible refine (DV.out _).mono ?_); rintro e w2 ⟨rfl, hb⟩; replace B := Aside0.mk (below_then B.out B.out.size hb); clear hb))
    go_ret2
    exact ⟨by simp, B.out⟩
  · rw [if_neg z]
    have hq2 := hq1 z
    clear hq1
    have d3 : decide (0 < r) = true := decide_eq_true (by omega)
    go_enter Try.func76, Try.ntmps76
    go_wp2_with (first | (go_at_call 108; (with_reducible refine (ML.out _).mono ?_); rintro e w1 ⟨rfl, hb⟩; have B := Aside0.mk hb; clear hb) | (go_at_call 109; (with_reducible refine (DV.out _).mono ?_); rintro e w2 ⟨rfl, hb⟩; replace B := Aside0.mk (below_then B.out B.out.size hb); clear hb))
    go_ret2
    exact ⟨by simp, B.out⟩
def rank_Rank.f (t n d : Int) : Option (Int × Int) := if u64 t ∧ u64 n ∧ u64 d then some (rankR t n d) else none
theorem rank_Rank.calls (t n d : Int) (r1 r2 : Int) (w : World) (h : rank_Rank.f t n d = some (r1, r2)) : Calls Try.prog 76 #[.int .u64 t, .int .u64 n, .int .u64 d] w fun e w' => e = .returned (.tuple #[.int .u64 r1, .int .i64 r2]) ∧ Below w.heap.size w w' := by
  obtain ⟨⟨ht, hn, hd⟩, h1⟩ := of_ite_some h
  unfold u64 at ht hn hd
  obtain ⟨t, rfl⟩ := Int.eq_ofNat_of_zero_le ht.1
  obtain ⟨n, rfl⟩ := Int.eq_ofNat_of_zero_le hn.1
  obtain ⟨d, rfl⟩ := Int.eq_ofNat_of_zero_le hd.1
  have := rank_c t n d (by omega) (by omega) (by omega) (fun h0 hnd w => by
    have hlt : t * n < d * 18446744073709551616 := by
      have h1 : t * n ≤ t * d := Nat.mul_le_mul_left _ hnd
      have h2 : t * d < 18446744073709551616 * d := Nat.mul_lt_mul_of_pos_right (by omega) (by omega)
      rw [Nat.mul_comm d]; omega
    have hhi : t * n / 18446744073709551616 < d := (Nat.div_lt_iff_lt_mul (by omega)).2 hlt
    have hdm := Nat.div_add_mod' (t * n) 18446744073709551616
    have hml := Nat.mod_lt (t * n) (show 18446744073709551616 > 0 by omega)
    by_cases c : t * n / 18446744073709551616 = 0
    · have hm' : t * n < 18446744073709551616 := by omega
      rw [c, Nat.mod_eq_of_lt hm']
      exact div0_c (t * n) d hm' (by omega) (by omega) w
    · have := div64_c (t * n / 18446744073709551616) (t * n % 18446744073709551616) d (by omega) hhi hml (by omega) w
      rw [hdm] at this
      exact this) w
  rw [h1] at this
  exact this
end Go.Proofs.Ytgkplhdcafbfbaa.P
namespace Go.Proofs.Ytgkplhdcafbfbaa.P
open Go.RowKit Go.Proofs.YtgkplhdcafbfbaaW.PrintWords Go.Proofs.YtgkplhdcafbfbaaW.PrintLast Go.Proofs.YtgkplhdcafbfbaaW.PrintMore
attribute [local go_sem] max2_int min2_int max_two min_two max_three min_three max_four min_four
def rank_Quantile.f (a0_0 : Int) (a0_1 : Int) (a0_2 : Int) (a0_3 : Int) (a0_4 : Int) (l0_5 : List (S87)) (l0_6 : List (S87)) (l0_7 : List Int) (l0_8 : List Int) (a1 : Int) (a2 : Int) : Option (Int × Int × Int × Int) := (rank_Total.f a0_0 a0_1 a0_2 a0_3 a0_4 l0_5 l0_6 l0_7 l0_8).bind fun bt103 => (if bt103.2 = 0 then ((rank_Rank.f bt103.1 a1 a2).bind fun bt105 => (if bt105.2 = 0 then (if bt103.1 = 0 then (some (0, 0, 0, 14)) else ((rank_At.f a0_0 a0_1 a0_2 a0_3 a0_4 l0_5 l0_6 l0_7 l0_8 (mx bt105.1 1)).bind fun bt107 => (some (bt107.1, bt107.2.1, bt107.2.2.1, bt107.2.2.2)))) else (some (0, 0, 0, bt105.2)))) else (some (0, 0, 0, bt103.2)))
set_option maxHeartbeats 8000000 in
set_option maxRecDepth 100000 in
theorem rank_Quantile.calls (a0_0 : Int) (a0_1 : Int) (a0_2 : Int) (a0_3 : Int) (a0_4 : Int) (A0_5 : Option Addr) (c0_5 : Nat) (l0_5 : List (S87)) (A0_6 : Option Addr) (c0_6 : Nat) (l0_6 : List (S87)) (A0_7 : Option Addr) (c0_7 : Nat) (l0_7 : List Int) (A0_8 : Option Addr) (c0_8 : Nat) (l0_8 : List Int) (a1 : Int) (a2 : Int) (r1 : Int) (r2 : Int) (r3 : Int) (r4 : Int) (w : World) (hr0_5 : Kd.C k87 w A0_5 l0_5.length l0_5) (hc0_5 : l0_5.length ≤ c0_5) (hr0_6 : Kd.C k87 w A0_6 l0_6.length l0_6) (hc0_6 : l0_6.length ≤ c0_6) (hr0_7 : Kd.C (Kd.int .i64) w A0_7 l0_7.length l0_7) (hc0_7 : l0_7.length ≤ c0_7) (hr0_8 : Kd.C (Kd.int .i64) w A0_8 l0_8.length l0_8) (hc0_8 : l0_8.length ≤ c0_8) (h : rank_Quantile.f a0_0 a0_1 a0_2 a0_3 a0_4 l0_5 l0_6 l0_7 l0_8 a1 a2 = some (r1, r2, r3, r4)) :
  Calls Try.prog 77 #[.agg #[.int .i64 a0_0, .int .u64 a0_1, .int .u64 a0_2, .int .u64 a0_3, .int .u64 a0_4, .slice A0_5 l0_5.length c0_5, .slice A0_6 l0_6.length c0_6, .slice A0_7 l0_7.length c0_7, .slice A0_8 l0_8.length c0_8], .int .u64 a1, .int .u64 a2] w fun e w' => e = .returned (.tuple #[.agg #[.int .i64 r1, .int .i64 r2, .int .u64 r3], .int .i64 r4]) ∧ Below w.heap.size w w' := by
 have hu30 := Try.underlying30
 have hu75 := Try.underlying75
 have HR0_5 := Aside0.mk hr0_5
 have HC0_5 := Aside0.mk hc0_5
 clear hr0_5 hc0_5
 have HR0_6 := Aside0.mk hr0_6
 have HC0_6 := Aside0.mk hc0_6
 clear hr0_6 hc0_6
 have HR0_7 := Aside0.mk hr0_7
 have HC0_7 := Aside0.mk hc0_7
 clear hr0_7 hc0_7
 have HR0_8 := Aside0.mk hr0_8
 have HC0_8 := Aside0.mk hc0_8
 clear hr0_8 hc0_8
 have HB := Aside0.mk (Below.refl w.heap.size w)
 have H : ((rank_Total.f a0_0 a0_1 a0_2 a0_3 a0_4 l0_5 l0_6 l0_7 l0_8).bind fun bt103 => (if bt103.2 = 0 then ((rank_Rank.f bt103.1 a1 a2).bind fun bt105 => (if bt105.2 = 0 then (if bt103.1 = 0 then (some (0, 0, 0, 14)) else ((rank_At.f a0_0 a0_1 a0_2 a0_3 a0_4 l0_5 l0_6 l0_7 l0_8 (mx bt105.1 1)).bind fun bt107 => (some (bt107.1, bt107.2.1, bt107.2.2.1, bt107.2.2.2)))) else (some (0, 0, 0, bt105.2)))) else (some (0, 0, 0, bt103.2)))) = some (r1, r2, r3, r4) := h
 clear h
 replace H := Option.bind_eq_some_iff.mp H
 obtain ⟨⟨t103, t104⟩, A40, H⟩ := H
 replace H : (if t104 = 0 then ((rank_Rank.f t103 a1 a2).bind fun bt105 => (if bt105.2 = 0 then (if t103 = 0 then (some (0, 0, 0, 14)) else ((rank_At.f a0_0 a0_1 a0_2 a0_3 a0_4 l0_5 l0_6 l0_7 l0_8 (mx bt105.1 1)).bind fun bt107 => (some (bt107.1, bt107.2.1, bt107.2.2.1, bt107.2.2.2)))) else (some (0, 0, 0, bt105.2)))) else (some (0, 0, 0, t104))) = some (r1, r2, r3, r4) := H
 have A4 := Aside0.mk A40
 clear A40
 by_cases c5 : t104 = 0
 ·rw [if_pos c5] at H
  have c5b0 : (t104 == 0) = true := beq_iff_eq.mpr c5
  have c5b1 : (t104 != 0) = false := bne_eq_false_iff_eq.mpr c5
  clear c5
  replace H := Option.bind_eq_some_iff.mp H
  obtain ⟨⟨t105, t106⟩, A60, H⟩ := H
  replace H : (if t106 = 0 then (if t103 = 0 then (some (0, 0, 0, 14)) else ((rank_At.f a0_0 a0_1 a0_2 a0_3 a0_4 l0_5 l0_6 l0_7 l0_8 (mx t105 1)).bind fun bt107 => (some (bt107.1, bt107.2.1, bt107.2.2.1, bt107.2.2.2)))) else (some (0, 0, 0, t106))) = some (r1, r2, r3, r4) := H
  have A6 := Aside0.mk A60
  clear A60
  by_cases c7 : t106 = 0
  ·rw [if_pos c7] at H
   have c7b0 : (t106 == 0) = true := beq_iff_eq.mpr c7
   have c7b1 : (t106 != 0) = false := bne_eq_false_iff_eq.mpr c7
   clear c7
   by_cases c8 : t103 = 0
   ·rw [if_pos c8] at H
    have c8b0 : (t103 == 0) = true := beq_iff_eq.mpr c8
    have c8b1 : (t103 != 0) = false := bne_eq_false_iff_eq.mpr c8
    clear c8
    simp only [Option.some.injEq, Prod.mk.injEq] at H
    obtain ⟨rfl, rfl, rfl, rfl⟩ := H
    go_enter Try.func77, Try.ntmps77
    go_wp2_with (first | ((with_reducible refine gate_dst (N := 3) rfl ?_); refine box_event ?hg (N := 3) ?hd (cs := #[.int .i64 a0_0, .int .u64 a0_1, .int .u64 a0_2, .int .u64 a0_3, .int .u64 a0_4, .slice A0_5 l0_5.length c0_5, .slice A0_6 l0_6.length c0_6, .slice A0_7 l0_7.length c0_7, .slice A0_8 l0_8.length c0_8]) (t := 30) ?hr ?_; (case hd => rfl); (case hg => rfl); (case hr => first | (go_simp; done) | (go_simp; rfl)); intro gb101 hg w9 hbox hb; have n0_ := Aside0.mk (below_step (by repeat (first | (with_reducible first | exact HB.out | apply below_alloc | apply pw_below_drewN | apply below_drew1) | exact HB.out)) hb); have n1_ := Aside0.mk (hbox); have n2_ := Aside0.mk ((by rw [hg]; exact (below_size (by repeat (first | (with_reducible first | exact HB.out | apply below_alloc | apply pw_below_drewN | apply below_drew1) | exact HB.out))) : w.heap.size ≤ gb101)); have n3_ := Aside0.mk ((by rw [hg]; exact (below_size (by repeat (first | (with_reducible first | exact HB.out | apply below_alloc | apply pw_below_drewN | apply below_drew1) | exact HB.out))) : w.heap.size ≤ gb101)); clear HB; have HB := n0_; have BK101 := n1_; have GW101 := n2_; have GE101 := n3_; clear n0_ n1_ n2_ n3_; clear hb hbox hg) | ((with_reducible refine gate_dst (N := 6) rfl ?_); refine box_event ?hg (N := 6) ?hd (cs := #[.int .i64 0, .int .i64 0, .int .u64 0]) (t := 75) ?hr ?_; (case hd => rfl); (case hg => rfl); (case hr => first | (go_simp; done) | (go_simp; rfl)); intro gb102 hg w10 hbox hb; have n0_ := Aside0.mk (blk_below (g := gb101) (o := .cells #[.int .i64 a0_0, .int .u64 a0_1, .int .u64 a0_2, .int .u64 a0_3, .int .u64 a0_4, .slice A0_5 l0_5.length c0_5, .slice A0_6 l0_6.length c0_6, .slice A0_7 l0_7.length c0_7, .slice A0_8 l0_8.length c0_8] 30 (0, 0)) (by (with_reducible repeat (first | refine blk_drewN ?_ _ | refine blk_drew ?_ | refine blk_alloc ?_ _)); exact BK101.out) hb); have n1_ := Aside0.mk (below_step (by repeat (first | (with_reducible first | exact HB.out | apply below_alloc | apply pw_below_drewN | apply below_drew1 | refine below_set ?_ GE101.out) | exact HB.out)) hb); have n2_ := Aside0.mk (hbox); have n3_ := Aside0.mk ((by rw [hg]; exact (below_size (by repeat (first | (with_reducible first | exact HB.out | apply below_alloc | apply pw_below_drewN | apply below_drew1 | refine below_set ?_ GE101.out) | exact HB.out))) : w.heap.size ≤ gb102)); have n4_ := Aside0.mk ((by rw [hg]; exact (below_size (by repeat (first | (with_reducible first | exact HB.out | apply below_alloc | apply pw_below_drewN | apply below_drew1 | refine below_set ?_ GE101.out) | exact HB.out))) : w.heap.size ≤ gb102)); have n5_ := Aside0.mk ((by rw [hg]; exact Nat.ne_of_lt (blk_lt (g := gb101) (o := .cells #[.int .i64 a0_0, .int .u64 a0_1, .int .u64 a0_2, .int .u64 a0_3, .int .u64 a0_4, .slice A0_5 l0_5.length c0_5, .slice A0_6 l0_6.length c0_6, .slice A0_7 l0_7.length c0_7, .slice A0_8 l0_8.length c0_8] 30 (0, 0)) (by (with_reducible repeat (first | refine blk_drewN ?_ _ | refine blk_drew ?_ | refine blk_alloc ?_ _)); exact BK101.out)) : gb101 ≠ gb102)); have n6_ := Aside0.mk ((by rw [hg]; exact Nat.ne_of_gt (blk_lt (g := gb101) (o := .cells #[.int .i64 a0_0, .int .u64 a0_1, .int .u64 a0_2, .int .u64 a0_3, .int .u64 a0_4, .slice A0_5 l0_5.length c0_5, .slice A0_6 l0_6.length c0_6, .slice A0_7 l0_7.length c0_7, .slice A0_8 l0_8.length c0_8] 30 (0, 0)) (by (with_reducible repeat (first | refine blk_drewN ?_ _ | refine blk_drew ?_ | refine blk_alloc ?_ _)); exact BK101.out)) : gb102 ≠ gb101)); clear BK101; clear HB; have BK101 := n0_; have HB := n1_; have BK102 := n2_; have GW102 := n3_; have GE102 := n4_; have NB101_102 := n5_; have NB102_101 := n6_; clear n0_ n1_ n2_ n3_ n4_ n5_ n6_; clear hb hbox hg; have hnb11 := NB101_102.out; have hnc11 := NB102_101.out; have hcz12_0 : w10.cell? ⟨gb101, 0, none⟩ = some (.int .i64 a0_0) := (blk_cell BK101.out 0).trans rfl; have hcz12_1 : w10.cell? ⟨gb101, 1, none⟩ = some (.int .u64 a0_1) := (blk_cell BK101.out 1).trans rfl; have hcz12_2 : w10.cell? ⟨gb101, 2, none⟩ = some (.int .u64 a0_2) := (blk_cell BK101.out 2).trans rfl; have hcz12_3 : w10.cell? ⟨gb101, 3, none⟩ = some (.int .u64 a0_3) := (blk_cell BK101.out 3).trans rfl; have hcz12_4 : w10.cell? ⟨gb101, 4, none⟩ = some (.int .u64 a0_4) := (blk_cell BK101.out 4).trans rfl; have hcz12_5 : w10.cell? ⟨gb101, 5, none⟩ = some (.slice A0_5 l0_5.length c0_5) := (blk_cell BK101.out 5).trans rfl; have hcz12_6 : w10.cell? ⟨gb101, 6, none⟩ = some (.slice A0_6 l0_6.length c0_6) := (blk_cell BK101.out 6).trans rfl; have hcz12_7 : w10.cell? ⟨gb101, 7, none⟩ = some (.slice A0_7 l0_7.length c0_7) := (blk_cell BK101.out 7).trans rfl; have hcz12_8 : w10.cell? ⟨gb101, 8, none⟩ = some (.slice A0_8 l0_8.length c0_8) := (blk_cell BK101.out 8).trans rfl; have hfz12_0 := blk_frozen BK101.out 0; have hfz12_1 := blk_frozen BK101.out 1; have hfz12_2 := blk_frozen BK101.out 2; have hfz12_3 := blk_frozen BK101.out 3; have hfz12_4 := blk_frozen BK101.out 4; have hfz12_5 := blk_frozen BK101.out 5; have hfz12_6 := blk_frozen BK101.out 6; have hfz12_7 := blk_frozen BK101.out 7; have hfz12_8 := blk_frozen BK101.out 8) | ((with_reducible refine gate_callee (f := 73) rfl ?_); refine goesL_ (some 13) rfl rfl Try.func73 (by kernel_rfl) rfl #[.agg #[.int .i64 a0_0, .int .u64 a0_1, .int .u64 a0_2, .int .u64 a0_3, .int .u64 a0_4, .slice A0_5 l0_5.length c0_5, .slice A0_6 l0_6.length c0_6, .slice A0_7 l0_7.length c0_7, .slice A0_8 l0_8.length c0_8]] rfl (by (try simp only [List.map_toArray, List.map_cons, List.map_nil]); first | done | rfl | (simp only [List.length_drop, List.length_take]; rfl)) ?_; (with_reducible refine (rank_Total.calls a0_0 a0_1 a0_2 a0_3 a0_4 _ _ l0_5 _ _ l0_6 _ _ l0_7 _ _ l0_8 t103 t104 _ ?side1 ?side2 ?side3 ?side4 ?side5 ?side6 ?side7 ?side8 A4.out).mono ?_); (case side1 => repeat (first | exact (Kd.C_below HR0_5.out HB.out) | (with_reducible refine Kd.C_alloc ?_ _) | (with_reducible refine Kd.C_drewN ?_ _) | (with_reducible refine Kd.C_drew ?_))); (case side2 => exact HC0_5.out); (case side3 => repeat (first | exact (Kd.C_below HR0_6.out HB.out) | (with_reducible refine Kd.C_alloc ?_ _) | (with_reducible refine Kd.C_drewN ?_ _) | (with_reducible refine Kd.C_drew ?_))); (case side4 => exact HC0_6.out); (case side5 => repeat (first | exact (Kd.C_below HR0_7.out HB.out) | (with_reducible refine Kd.C_alloc ?_ _) | (with_reducible refine Kd.C_drewN ?_ _) | (with_reducible refine Kd.C_drew ?_))); (case side6 => exact HC0_7.out); (case side7 => repeat (first | exact (Kd.C_below HR0_8.out HB.out) | (with_reducible refine Kd.C_alloc ?_ _) | (with_reducible refine Kd.C_drewN ?_ _) | (with_reducible refine Kd.C_drew ?_))); (case side8 => exact HC0_8.out); rintro e w13 ⟨rfl, hb⟩; refine ⟨_, rfl, ?_⟩; have n0_ := Aside0.mk (blk_below (g := gb101) (o := .cells #[.int .i64 a0_0, .int .u64 a0_1, .int .u64 a0_2, .int .u64 a0_3, .int .u64 a0_4, .slice A0_5 l0_5.length c0_5, .slice A0_6 l0_6.length c0_6, .slice A0_7 l0_7.length c0_7, .slice A0_8 l0_8.length c0_8] 30 (0, 0)) (by (with_reducible repeat (first | refine blk_drewN ?_ _ | refine blk_drew ?_ | refine blk_alloc ?_ _)); exact BK101.out) hb); have n1_ := Aside0.mk (blk_below (g := gb102) (o := .cells #[.int .i64 0, .int .i64 0, .int .u64 0] 75 (0, 0)) (by (with_reducible repeat (first | refine blk_drewN ?_ _ | refine blk_drew ?_ | refine blk_alloc ?_ _)); exact BK102.out) hb); have n2_ := Aside0.mk (below_step (by repeat (first | (with_reducible first | exact HB.out | apply below_alloc | apply pw_below_drewN | apply below_drew1 | refine below_set ?_ GE101.out | refine below_set ?_ GE102.out) | exact HB.out)) hb); clear BK101; clear BK102; clear HB; have BK101 := n0_; have BK102 := n1_; have HB := n2_; clear n0_ n1_ n2_; (try clear hb); (try clear hb2); (try clear hk); (try clear hi); clear A4) | ((with_reducible refine gate_callee (f := 76) rfl ?_); refine goesL_ (some 24) rfl rfl Try.func76 (by kernel_rfl) rfl #[.int .u64 t103, .int .u64 a1, .int .u64 a2] rfl (by (try simp only [List.map_toArray, List.map_cons, List.map_nil]); first | done | rfl | (simp only [List.length_drop, List.length_take]; rfl)) ?_; (with_reducible refine (rank_Rank.calls t103 a1 a2 t105 t106 _ A6.out).mono ?_); rintro e w14 ⟨rfl, hb⟩; refine ⟨_, rfl, ?_⟩; have n0_ := Aside0.mk (blk_below (g := gb101) (o := .cells #[.int .i64 a0_0, .int .u64 a0_1, .int .u64 a0_2, .int .u64 a0_3, .int .u64 a0_4, .slice A0_5 l0_5.length c0_5, .slice A0_6 l0_6.length c0_6, .slice A0_7 l0_7.length c0_7, .slice A0_8 l0_8.length c0_8] 30 (0, 0)) (by (with_reducible repeat (first | refine blk_drewN ?_ _ | refine blk_drew ?_ | refine blk_alloc ?_ _)); exact BK101.out) hb); have n1_ := Aside0.mk (blk_below (g := gb102) (o := .cells #[.int .i64 0, .int .i64 0, .int .u64 0] 75 (0, 0)) (by (with_reducible repeat (first | refine blk_drewN ?_ _ | refine blk_drew ?_ | refine blk_alloc ?_ _)); exact BK102.out) hb); have n2_ := Aside0.mk (below_step (by repeat (first | (with_reducible first | exact HB.out | apply below_alloc | apply pw_below_drewN | apply below_drew1 | refine below_set ?_ GE101.out | refine below_set ?_ GE102.out) | exact HB.out)) hb); clear BK101; clear BK102; clear HB; have BK101 := n0_; have BK102 := n1_; have HB := n2_; clear n0_ n1_ n2_; (try clear hb); (try clear hb2); (try clear hk); (try clear hi); clear A6; have hcz15_0 : w14.cell? ⟨gb102, 0, none⟩ = some (.int .i64 0) := (blk_cell BK102.out 0).trans rfl; have hcz15_1 : w14.cell? ⟨gb102, 1, none⟩ = some (.int .i64 0) := (blk_cell BK102.out 1).trans rfl; have hcz15_2 : w14.cell? ⟨gb102, 2, none⟩ = some (.int .u64 0) := (blk_cell BK102.out 2).trans rfl; have hfz15_0 := blk_frozen BK102.out 0; have hfz15_1 := blk_frozen BK102.out 1; have hfz15_2 := blk_frozen BK102.out 2))
    refine bodyPost_ret (results_ct rfl _ _ gb102 75 #[.int .i64 0, .int .i64 0, .int .u64 0] (0, 0) _ rfl (by (with_reducible repeat (first | refine blk_drewN ?_ _ | refine blk_drew ?_ | refine blk_alloc ?_ _)); refine blk_put (cs := #[.int .i64 0, .int .i64 0, .int .u64 0]) ?_ 2 _ rfl; (with_reducible repeat (first | refine blk_drewN ?_ _ | refine blk_drew ?_ | refine blk_alloc ?_ _)); refine blk_put (cs := #[.int .i64 0, .int .i64 0, .int .u64 0]) ?_ 1 _ rfl; (with_reducible repeat (first | refine blk_drewN ?_ _ | refine blk_drew ?_ | refine blk_alloc ?_ _)); refine blk_put (cs := #[.int .i64 0, .int .i64 0, .int .u64 0]) ?_ 0 _ rfl; (with_reducible repeat (first | refine blk_drewN ?_ _ | refine blk_drew ?_ | refine blk_alloc ?_ _)); exact BK102.out) Try.underlying75 rfl (by kernel_rfl)) rfl ?_
    exact ⟨by first | rfl | (simp [errW_none, errW_some] <;> rfl) | (simp [*, errW_none, errW_some] <;> rfl), by repeat (first | (with_reducible first | exact HB.out | apply below_alloc | apply pw_below_drewN | apply below_drew1 | refine below_set ?_ GE101.out | refine below_set ?_ GE102.out) | exact HB.out)⟩
   ·rw [if_neg c8] at H
    have c8b0 : (t103 == 0) = false := beq_eq_false_iff_ne.mpr c8
    have c8b1 : (t103 != 0) = true := bne_iff_ne.mpr c8
    obtain ⟨ji16, hji16⟩ : ∃ j_ : Int, (mx t105 1) = j_ := ⟨_, rfl⟩
    replace H : ((rank_At.f a0_0 a0_1 a0_2 a0_3 a0_4 l0_5 l0_6 l0_7 l0_8 (ji16)).bind fun bt107 => (some (bt107.1, bt107.2.1, bt107.2.2.1, bt107.2.2.2))) = some (r1, r2, r3, r4) := by first | (rw [hji16] at H; exact H) | (simp only [hji16] at H ⊢; exact H)
    (try rw [hji16] at A4)
    (try rw [hji16] at A6)
    (try (have hji16l : 1 ≤ ji16 := by (rw [← hji16]; unfold mx; (repeat' split) <;> omega)))
    (try (have hji16m : 0 ≤ ji16 := by omega))
    have hji16_ : (if t105 < 1 then 1 else t105) = ji16 := hji16
    replace H := Option.bind_eq_some_iff.mp H
    obtain ⟨⟨t107, t108, t109, t110⟩, A170, H⟩ := H
    replace H : (some (t107, t108, t109, t110)) = some (r1, r2, r3, r4) := H
    have A17 := Aside0.mk A170
    clear A170
    simp only [Option.some.injEq, Prod.mk.injEq] at H
    obtain ⟨rfl, rfl, rfl, rfl⟩ := H
    go_enter Try.func77, Try.ntmps77
    go_wp2_with (first | ((with_reducible refine gate_dst (N := 3) rfl ?_); refine box_event ?hg (N := 3) ?hd (cs := #[.int .i64 a0_0, .int .u64 a0_1, .int .u64 a0_2, .int .u64 a0_3, .int .u64 a0_4, .slice A0_5 l0_5.length c0_5, .slice A0_6 l0_6.length c0_6, .slice A0_7 l0_7.length c0_7, .slice A0_8 l0_8.length c0_8]) (t := 30) ?hr ?_; (case hd => rfl); (case hg => rfl); (case hr => first | (go_simp; done) | (go_simp; rfl)); intro gb101 hg w18 hbox hb; have n0_ := Aside0.mk (below_step (by repeat (first | (with_reducible first | exact HB.out | apply below_alloc | apply pw_below_drewN | apply below_drew1) | exact HB.out)) hb); have n1_ := Aside0.mk (hbox); have n2_ := Aside0.mk ((by rw [hg]; exact (below_size (by repeat (first | (with_reducible first | exact HB.out | apply below_alloc | apply pw_below_drewN | apply below_drew1) | exact HB.out))) : w.heap.size ≤ gb101)); have n3_ := Aside0.mk ((by rw [hg]; exact (below_size (by repeat (first | (with_reducible first | exact HB.out | apply below_alloc | apply pw_below_drewN | apply below_drew1) | exact HB.out))) : w.heap.size ≤ gb101)); clear HB; have HB := n0_; have BK101 := n1_; have GW101 := n2_; have GE101 := n3_; clear n0_ n1_ n2_ n3_; clear hb hbox hg) | ((with_reducible refine gate_dst (N := 6) rfl ?_); refine box_event ?hg (N := 6) ?hd (cs := #[.int .i64 0, .int .i64 0, .int .u64 0]) (t := 75) ?hr ?_; (case hd => rfl); (case hg => rfl); (case hr => first | (go_simp; done) | (go_simp; rfl)); intro gb102 hg w19 hbox hb; have n0_ := Aside0.mk (blk_below (g := gb101) (o := .cells #[.int .i64 a0_0, .int .u64 a0_1, .int .u64 a0_2, .int .u64 a0_3, .int .u64 a0_4, .slice A0_5 l0_5.length c0_5, .slice A0_6 l0_6.length c0_6, .slice A0_7 l0_7.length c0_7, .slice A0_8 l0_8.length c0_8] 30 (0, 0)) (by (with_reducible repeat (first | refine blk_drewN ?_ _ | refine blk_drew ?_ | refine blk_alloc ?_ _)); exact BK101.out) hb); have n1_ := Aside0.mk (below_step (by repeat (first | (with_reducible first | exact HB.out | apply below_alloc | apply pw_below_drewN | apply below_drew1 | refine below_set ?_ GE101.out) | exact HB.out)) hb); have n2_ := Aside0.mk (hbox); have n3_ := Aside0.mk ((by rw [hg]; exact (below_size (by repeat (first | (with_reducible first | exact HB.out | apply below_alloc | apply pw_below_drewN | apply below_drew1 | refine below_set ?_ GE101.out) | exact HB.out))) : w.heap.size ≤ gb102)); have n4_ := Aside0.mk ((by rw [hg]; exact (below_size (by repeat (first | (with_reducible first | exact HB.out | apply below_alloc | apply pw_below_drewN | apply below_drew1 | refine below_set ?_ GE101.out) | exact HB.out))) : w.heap.size ≤ gb102)); have n5_ := Aside0.mk ((by rw [hg]; exact Nat.ne_of_lt (blk_lt (g := gb101) (o := .cells #[.int .i64 a0_0, .int .u64 a0_1, .int .u64 a0_2, .int .u64 a0_3, .int .u64 a0_4, .slice A0_5 l0_5.length c0_5, .slice A0_6 l0_6.length c0_6, .slice A0_7 l0_7.length c0_7, .slice A0_8 l0_8.length c0_8] 30 (0, 0)) (by (with_reducible repeat (first | refine blk_drewN ?_ _ | refine blk_drew ?_ | refine blk_alloc ?_ _)); exact BK101.out)) : gb101 ≠ gb102)); have n6_ := Aside0.mk ((by rw [hg]; exact Nat.ne_of_gt (blk_lt (g := gb101) (o := .cells #[.int .i64 a0_0, .int .u64 a0_1, .int .u64 a0_2, .int .u64 a0_3, .int .u64 a0_4, .slice A0_5 l0_5.length c0_5, .slice A0_6 l0_6.length c0_6, .slice A0_7 l0_7.length c0_7, .slice A0_8 l0_8.length c0_8] 30 (0, 0)) (by (with_reducible repeat (first | refine blk_drewN ?_ _ | refine blk_drew ?_ | refine blk_alloc ?_ _)); exact BK101.out)) : gb102 ≠ gb101)); clear BK101; clear HB; have BK101 := n0_; have HB := n1_; have BK102 := n2_; have GW102 := n3_; have GE102 := n4_; have NB101_102 := n5_; have NB102_101 := n6_; clear n0_ n1_ n2_ n3_ n4_ n5_ n6_; clear hb hbox hg; have hnb20 := NB101_102.out; have hnc20 := NB102_101.out; have hcz21_0 : w19.cell? ⟨gb101, 0, none⟩ = some (.int .i64 a0_0) := (blk_cell BK101.out 0).trans rfl; have hcz21_1 : w19.cell? ⟨gb101, 1, none⟩ = some (.int .u64 a0_1) := (blk_cell BK101.out 1).trans rfl; have hcz21_2 : w19.cell? ⟨gb101, 2, none⟩ = some (.int .u64 a0_2) := (blk_cell BK101.out 2).trans rfl; have hcz21_3 : w19.cell? ⟨gb101, 3, none⟩ = some (.int .u64 a0_3) := (blk_cell BK101.out 3).trans rfl; have hcz21_4 : w19.cell? ⟨gb101, 4, none⟩ = some (.int .u64 a0_4) := (blk_cell BK101.out 4).trans rfl; have hcz21_5 : w19.cell? ⟨gb101, 5, none⟩ = some (.slice A0_5 l0_5.length c0_5) := (blk_cell BK101.out 5).trans rfl; have hcz21_6 : w19.cell? ⟨gb101, 6, none⟩ = some (.slice A0_6 l0_6.length c0_6) := (blk_cell BK101.out 6).trans rfl; have hcz21_7 : w19.cell? ⟨gb101, 7, none⟩ = some (.slice A0_7 l0_7.length c0_7) := (blk_cell BK101.out 7).trans rfl; have hcz21_8 : w19.cell? ⟨gb101, 8, none⟩ = some (.slice A0_8 l0_8.length c0_8) := (blk_cell BK101.out 8).trans rfl; have hfz21_0 := blk_frozen BK101.out 0; have hfz21_1 := blk_frozen BK101.out 1; have hfz21_2 := blk_frozen BK101.out 2; have hfz21_3 := blk_frozen BK101.out 3; have hfz21_4 := blk_frozen BK101.out 4; have hfz21_5 := blk_frozen BK101.out 5; have hfz21_6 := blk_frozen BK101.out 6; have hfz21_7 := blk_frozen BK101.out 7; have hfz21_8 := blk_frozen BK101.out 8) | ((with_reducible refine gate_callee (f := 73) rfl ?_); refine goesL_ (some 13) rfl rfl Try.func73 (by kernel_rfl) rfl #[.agg #[.int .i64 a0_0, .int .u64 a0_1, .int .u64 a0_2, .int .u64 a0_3, .int .u64 a0_4, .slice A0_5 l0_5.length c0_5, .slice A0_6 l0_6.length c0_6, .slice A0_7 l0_7.length c0_7, .slice A0_8 l0_8.length c0_8]] rfl (by (try simp only [List.map_toArray, List.map_cons, List.map_nil]); first | done | rfl | (simp only [List.length_drop, List.length_take]; rfl)) ?_; (with_reducible refine (rank_Total.calls a0_0 a0_1 a0_2 a0_3 a0_4 _ _ l0_5 _ _ l0_6 _ _ l0_7 _ _ l0_8 t103 t104 _ ?side1 ?side2 ?side3 ?side4 ?side5 ?side6 ?side7 ?side8 A4.out).mono ?_); (case side1 => repeat (first | exact (Kd.C_below HR0_5.out HB.out) | (with_reducible refine Kd.C_alloc ?_ _) | (with_reducible refine Kd.C_drewN ?_ _) | (with_reducible refine Kd.C_drew ?_))); (case side2 => exact HC0_5.out); (case side3 => repeat (first | exact (Kd.C_below HR0_6.out HB.out) | (with_reducible refine Kd.C_alloc ?_ _) | (with_reducible refine Kd.C_drewN ?_ _) | (with_reducible refine Kd.C_drew ?_))); (case side4 => exact HC0_6.out); (case side5 => repeat (first | exact (Kd.C_below HR0_7.out HB.out) | (with_reducible refine Kd.C_alloc ?_ _) | (with_reducible refine Kd.C_drewN ?_ _) | (with_reducible refine Kd.C_drew ?_))); (case side6 => exact HC0_7.out); (case side7 => repeat (first | exact (Kd.C_below HR0_8.out HB.out) | (with_reducible refine Kd.C_alloc ?_ _) | (with_reducible refine Kd.C_drewN ?_ _) | (with_reducible refine Kd.C_drew ?_))); (case side8 => exact HC0_8.out); rintro e w22 ⟨rfl, hb⟩; refine ⟨_, rfl, ?_⟩; have n0_ := Aside0.mk (blk_below (g := gb101) (o := .cells #[.int .i64 a0_0, .int .u64 a0_1, .int .u64 a0_2, .int .u64 a0_3, .int .u64 a0_4, .slice A0_5 l0_5.length c0_5, .slice A0_6 l0_6.length c0_6, .slice A0_7 l0_7.length c0_7, .slice A0_8 l0_8.length c0_8] 30 (0, 0)) (by (with_reducible repeat (first | refine blk_drewN ?_ _ | refine blk_drew ?_ | refine blk_alloc ?_ _)); exact BK101.out) hb); have n1_ := Aside0.mk (blk_below (g := gb102) (o := .cells #[.int .i64 0, .int .i64 0, .int .u64 0] 75 (0, 0)) (by (with_reducible repeat (first | refine blk_drewN ?_ _ | refine blk_drew ?_ | refine blk_alloc ?_ _)); exact BK102.out) hb); have n2_ := Aside0.mk (below_step (by repeat (first | (with_reducible first | exact HB.out | apply below_alloc | apply pw_below_drewN | apply below_drew1 | refine below_set ?_ GE101.out | refine below_set ?_ GE102.out) | exact HB.out)) hb); clear BK101; clear BK102; clear HB; have BK101 := n0_; have BK102 := n1_; have HB := n2_; clear n0_ n1_ n2_; (try clear hb); (try clear hb2); (try clear hk); (try clear hi); clear A4) | ((with_reducible refine gate_callee (f := 76) rfl ?_); refine goesL_ (some 24) rfl rfl Try.func76 (by kernel_rfl) rfl #[.int .u64 t103, .int .u64 a1, .int .u64 a2] rfl (by (try simp only [List.map_toArray, List.map_cons, List.map_nil]); first | done | rfl | (simp only [List.length_drop, List.length_take]; rfl)) ?_; (with_reducible refine (rank_Rank.calls t103 a1 a2 t105 t106 _ A6.out).mono ?_); rintro e w23 ⟨rfl, hb⟩; refine ⟨_, rfl, ?_⟩; have n0_ := Aside0.mk (blk_below (g := gb101) (o := .cells #[.int .i64 a0_0, .int .u64 a0_1, .int .u64 a0_2, .int .u64 a0_3, .int .u64 a0_4, .slice A0_5 l0_5.length c0_5, .slice A0_6 l0_6.length c0_6, .slice A0_7 l0_7.length c0_7, .slice A0_8 l0_8.length c0_8] 30 (0, 0)) (by (with_reducible repeat (first | refine blk_drewN ?_ _ | refine blk_drew ?_ | refine blk_alloc ?_ _)); exact BK101.out) hb); have n1_ := Aside0.mk (blk_below (g := gb102) (o := .cells #[.int .i64 0, .int .i64 0, .int .u64 0] 75 (0, 0)) (by (with_reducible repeat (first | refine blk_drewN ?_ _ | refine blk_drew ?_ | refine blk_alloc ?_ _)); exact BK102.out) hb); have n2_ := Aside0.mk (below_step (by repeat (first | (with_reducible first | exact HB.out | apply below_alloc | apply pw_below_drewN | apply below_drew1 | refine below_set ?_ GE101.out | refine below_set ?_ GE102.out) | exact HB.out)) hb); clear BK101; clear BK102; clear HB; have BK101 := n0_; have BK102 := n1_; have HB := n2_; clear n0_ n1_ n2_; (try clear hb); (try clear hb2); (try clear hk); (try clear hi); clear A6; have hcz24_0 : w23.cell? ⟨gb101, 0, none⟩ = some (.int .i64 a0_0) := (blk_cell BK101.out 0).trans rfl; have hcz24_1 : w23.cell? ⟨gb101, 1, none⟩ = some (.int .u64 a0_1) := (blk_cell BK101.out 1).trans rfl; have hcz24_2 : w23.cell? ⟨gb101, 2, none⟩ = some (.int .u64 a0_2) := (blk_cell BK101.out 2).trans rfl; have hcz24_3 : w23.cell? ⟨gb101, 3, none⟩ = some (.int .u64 a0_3) := (blk_cell BK101.out 3).trans rfl; have hcz24_4 : w23.cell? ⟨gb101, 4, none⟩ = some (.int .u64 a0_4) := (blk_cell BK101.out 4).trans rfl; have hcz24_5 : w23.cell? ⟨gb101, 5, none⟩ = some (.slice A0_5 l0_5.length c0_5) := (blk_cell BK101.out 5).trans rfl; have hcz24_6 : w23.cell? ⟨gb101, 6, none⟩ = some (.slice A0_6 l0_6.length c0_6) := (blk_cell BK101.out 6).trans rfl; have hcz24_7 : w23.cell? ⟨gb101, 7, none⟩ = some (.slice A0_7 l0_7.length c0_7) := (blk_cell BK101.out 7).trans rfl; have hcz24_8 : w23.cell? ⟨gb101, 8, none⟩ = some (.slice A0_8 l0_8.length c0_8) := (blk_cell BK101.out 8).trans rfl; have hfz24_0 := blk_frozen BK101.out 0; have hfz24_1 := blk_frozen BK101.out 1; have hfz24_2 := blk_frozen BK101.out 2; have hfz24_3 := blk_frozen BK101.out 3; have hfz24_4 := blk_frozen BK101.out 4; have hfz24_5 := blk_frozen BK101.out 5; have hfz24_6 := blk_frozen BK101.out 6; have hfz24_7 := blk_frozen BK101.out 7; have hfz24_8 := blk_frozen BK101.out 8) | ((with_reducible refine gate_callee (f := 34) rfl ?_); refine goesL_ (some 39) rfl rfl Try.func34 (by kernel_rfl) rfl #[.agg #[.int .i64 a0_0, .int .u64 a0_1, .int .u64 a0_2, .int .u64 a0_3, .int .u64 a0_4, .slice A0_5 l0_5.length c0_5, .slice A0_6 l0_6.length c0_6, .slice A0_7 l0_7.length c0_7, .slice A0_8 l0_8.length c0_8], .int .u64 ji16] rfl (by (try simp only [List.map_toArray, List.map_cons, List.map_nil]); first | done | (simp only [hji16]; rfl) | rfl | (simp only [List.length_drop, List.length_take]; rfl)) ?_; (with_reducible refine (rank_At.calls a0_0 a0_1 a0_2 a0_3 a0_4 _ _ l0_5 _ _ l0_6 _ _ l0_7 _ _ l0_8 ji16 t107 t108 t109 t110 _ ?side1 ?side2 ?side3 ?side4 ?side5 ?side6 ?side7 ?side8 A17.out).mono ?_); (case side1 => repeat (first | exact (Kd.C_below HR0_5.out HB.out) | (with_reducible refine Kd.C_alloc ?_ _) | (with_reducible refine Kd.C_drewN ?_ _) | (with_reducible refine Kd.C_drew ?_))); (case side2 => exact HC0_5.out); (case side3 => repeat (first | exact (Kd.C_below HR0_6.out HB.out) | (with_reducible refine Kd.C_alloc ?_ _) | (with_reducible refine Kd.C_drewN ?_ _) | (with_reducible refine Kd.C_drew ?_))); (case side4 => exact HC0_6.out); (case side5 => repeat (first | exact (Kd.C_below HR0_7.out HB.out) | (with_reducible refine Kd.C_alloc ?_ _) | (with_reducible refine Kd.C_drewN ?_ _) | (with_reducible refine Kd.C_drew ?_))); (case side6 => exact HC0_7.out); (case side7 => repeat (first | exact (Kd.C_below HR0_8.out HB.out) | (with_reducible refine Kd.C_alloc ?_ _) | (with_reducible refine Kd.C_drewN ?_ _) | (with_reducible refine Kd.C_drew ?_))); (case side8 => exact HC0_8.out); rintro e w25 ⟨rfl, hb⟩; refine ⟨_, rfl, ?_⟩; have n0_ := Aside0.mk (blk_below (g := gb101) (o := .cells #[.int .i64 a0_0, .int .u64 a0_1, .int .u64 a0_2, .int .u64 a0_3, .int .u64 a0_4, .slice A0_5 l0_5.length c0_5, .slice A0_6 l0_6.length c0_6, .slice A0_7 l0_7.length c0_7, .slice A0_8 l0_8.length c0_8] 30 (0, 0)) (by (with_reducible repeat (first | refine blk_drewN ?_ _ | refine blk_drew ?_ | refine blk_alloc ?_ _)); exact BK101.out) hb); have n1_ := Aside0.mk (blk_below (g := gb102) (o := .cells #[.int .i64 0, .int .i64 0, .int .u64 0] 75 (0, 0)) (by (with_reducible repeat (first | refine blk_drewN ?_ _ | refine blk_drew ?_ | refine blk_alloc ?_ _)); exact BK102.out) hb); have n2_ := Aside0.mk (below_step (by repeat (first | (with_reducible first | exact HB.out | apply below_alloc | apply pw_below_drewN | apply below_drew1 | refine below_set ?_ GE101.out | refine below_set ?_ GE102.out) | exact HB.out)) hb); clear BK101; clear BK102; clear HB; have BK101 := n0_; have BK102 := n1_; have HB := n2_; clear n0_ n1_ n2_; (try clear hb); (try clear hb2); (try clear hk); (try clear hi); clear A17; have hcz26_0 : w25.cell? ⟨gb102, 0, none⟩ = some (.int .i64 0) := (blk_cell BK102.out 0).trans rfl; have hcz26_1 : w25.cell? ⟨gb102, 1, none⟩ = some (.int .i64 0) := (blk_cell BK102.out 1).trans rfl; have hcz26_2 : w25.cell? ⟨gb102, 2, none⟩ = some (.int .u64 0) := (blk_cell BK102.out 2).trans rfl; have hfz26_0 := blk_frozen BK102.out 0; have hfz26_1 := blk_frozen BK102.out 1; have hfz26_2 := blk_frozen BK102.out 2))
    refine bodyPost_ret (results_ct rfl _ _ gb102 75 #[.int .i64 t107, .int .i64 t108, .int .u64 t109] (0, 0) _ rfl (by (with_reducible repeat (first | refine blk_drewN ?_ _ | refine blk_drew ?_ | refine blk_alloc ?_ _)); refine blk_put (cs := #[.int .i64 t107, .int .i64 t108, .int .u64 0]) ?_ 2 _ rfl; (with_reducible repeat (first | refine blk_drewN ?_ _ | refine blk_drew ?_ | refine blk_alloc ?_ _)); refine blk_put (cs := #[.int .i64 t107, .int .i64 0, .int .u64 0]) ?_ 1 _ rfl; (with_reducible repeat (first | refine blk_drewN ?_ _ | refine blk_drew ?_ | refine blk_alloc ?_ _)); refine blk_put (cs := #[.int .i64 0, .int .i64 0, .int .u64 0]) ?_ 0 _ rfl; (with_reducible repeat (first | refine blk_drewN ?_ _ | refine blk_drew ?_ | refine blk_alloc ?_ _)); exact BK102.out) Try.underlying75 rfl (by kernel_rfl)) rfl ?_
    exact ⟨by first | rfl | (simp [errW_none, errW_some] <;> rfl) | (simp only [← hji16]; first | rfl | (simp [errW_none, errW_some] <;> rfl)) | (simp [*, errW_none, errW_some] <;> rfl), by repeat (first | (with_reducible first | exact HB.out | apply below_alloc | apply pw_below_drewN | apply below_drew1 | refine below_set ?_ GE101.out | refine below_set ?_ GE102.out) | exact HB.out)⟩
  ·rw [if_neg c7] at H
   have c7b0 : (t106 == 0) = false := beq_eq_false_iff_ne.mpr c7
   have c7b1 : (t106 != 0) = true := bne_iff_ne.mpr c7
   simp only [Option.some.injEq, Prod.mk.injEq] at H
   obtain ⟨rfl, rfl, rfl, rfl⟩ := H
   go_enter Try.func77, Try.ntmps77
   go_wp2_with (first | ((with_reducible refine gate_dst (N := 3) rfl ?_); refine box_event ?hg (N := 3) ?hd (cs := #[.int .i64 a0_0, .int .u64 a0_1, .int .u64 a0_2, .int .u64 a0_3, .int .u64 a0_4, .slice A0_5 l0_5.length c0_5, .slice A0_6 l0_6.length c0_6, .slice A0_7 l0_7.length c0_7, .slice A0_8 l0_8.length c0_8]) (t := 30) ?hr ?_; (case hd => rfl); (case hg => rfl); (case hr => first | (go_simp; done) | (go_simp; rfl)); intro gb101 hg w27 hbox hb; have n0_ := Aside0.mk (below_step (by repeat (first | (with_reducible first | exact HB.out | apply below_alloc | apply pw_below_drewN | apply below_drew1) | exact HB.out)) hb); have n1_ := Aside0.mk (hbox); have n2_ := Aside0.mk ((by rw [hg]; exact (below_size (by repeat (first | (with_reducible first | exact HB.out | apply below_alloc | apply pw_below_drewN | apply below_drew1) | exact HB.out))) : w.heap.size ≤ gb101)); have n3_ := Aside0.mk ((by rw [hg]; exact (below_size (by repeat (first | (with_reducible first | exact HB.out | apply below_alloc | apply pw_below_drewN | apply below_drew1) | exact HB.out))) : w.heap.size ≤ gb101)); clear HB; have HB := n0_; have BK101 := n1_; have GW101 := n2_; have GE101 := n3_; clear n0_ n1_ n2_ n3_; clear hb hbox hg) | ((with_reducible refine gate_dst (N := 6) rfl ?_); refine box_event ?hg (N := 6) ?hd (cs := #[.int .i64 0, .int .i64 0, .int .u64 0]) (t := 75) ?hr ?_; (case hd => rfl); (case hg => rfl); (case hr => first | (go_simp; done) | (go_simp; rfl)); intro gb102 hg w28 hbox hb; have n0_ := Aside0.mk (blk_below (g := gb101) (o := .cells #[.int .i64 a0_0, .int .u64 a0_1, .int .u64 a0_2, .int .u64 a0_3, .int .u64 a0_4, .slice A0_5 l0_5.length c0_5, .slice A0_6 l0_6.length c0_6, .slice A0_7 l0_7.length c0_7, .slice A0_8 l0_8.length c0_8] 30 (0, 0)) (by (with_reducible repeat (first | refine blk_drewN ?_ _ | refine blk_drew ?_ | refine blk_alloc ?_ _)); exact BK101.out) hb); have n1_ := Aside0.mk (below_step (by repeat (first | (with_reducible first | exact HB.out | apply below_alloc | apply pw_below_drewN | apply below_drew1 | refine below_set ?_ GE101.out) | exact HB.out)) hb); have n2_ := Aside0.mk (hbox); have n3_ := Aside0.mk ((by rw [hg]; exact (below_size (by repeat (first | (with_reducible first | exact HB.out | apply below_alloc | apply pw_below_drewN | apply below_drew1 | refine below_set ?_ GE101.out) | exact HB.out))) : w.heap.size ≤ gb102)); have n4_ := Aside0.mk ((by rw [hg]; exact (below_size (by repeat (first | (with_reducible first | exact HB.out | apply below_alloc | apply pw_below_drewN | apply below_drew1 | refine below_set ?_ GE101.out) | exact HB.out))) : w.heap.size ≤ gb102)); have n5_ := Aside0.mk ((by rw [hg]; exact Nat.ne_of_lt (blk_lt (g := gb101) (o := .cells #[.int .i64 a0_0, .int .u64 a0_1, .int .u64 a0_2, .int .u64 a0_3, .int .u64 a0_4, .slice A0_5 l0_5.length c0_5, .slice A0_6 l0_6.length c0_6, .slice A0_7 l0_7.length c0_7, .slice A0_8 l0_8.length c0_8] 30 (0, 0)) (by (with_reducible repeat (first | refine blk_drewN ?_ _ | refine blk_drew ?_ | refine blk_alloc ?_ _)); exact BK101.out)) : gb101 ≠ gb102)); have n6_ := Aside0.mk ((by rw [hg]; exact Nat.ne_of_gt (blk_lt (g := gb101) (o := .cells #[.int .i64 a0_0, .int .u64 a0_1, .int .u64 a0_2, .int .u64 a0_3, .int .u64 a0_4, .slice A0_5 l0_5.length c0_5, .slice A0_6 l0_6.length c0_6, .slice A0_7 l0_7.length c0_7, .slice A0_8 l0_8.length c0_8] 30 (0, 0)) (by (with_reducible repeat (first | refine blk_drewN ?_ _ | refine blk_drew ?_ | refine blk_alloc ?_ _)); exact BK101.out)) : gb102 ≠ gb101)); clear BK101; clear HB; have BK101 := n0_; have HB := n1_; have BK102 := n2_; have GW102 := n3_; have GE102 := n4_; have NB101_102 := n5_; have NB102_101 := n6_; clear n0_ n1_ n2_ n3_ n4_ n5_ n6_; clear hb hbox hg; have hnb29 := NB101_102.out; have hnc29 := NB102_101.out; have hcz30_0 : w28.cell? ⟨gb101, 0, none⟩ = some (.int .i64 a0_0) := (blk_cell BK101.out 0).trans rfl; have hcz30_1 : w28.cell? ⟨gb101, 1, none⟩ = some (.int .u64 a0_1) := (blk_cell BK101.out 1).trans rfl; have hcz30_2 : w28.cell? ⟨gb101, 2, none⟩ = some (.int .u64 a0_2) := (blk_cell BK101.out 2).trans rfl; have hcz30_3 : w28.cell? ⟨gb101, 3, none⟩ = some (.int .u64 a0_3) := (blk_cell BK101.out 3).trans rfl; have hcz30_4 : w28.cell? ⟨gb101, 4, none⟩ = some (.int .u64 a0_4) := (blk_cell BK101.out 4).trans rfl; have hcz30_5 : w28.cell? ⟨gb101, 5, none⟩ = some (.slice A0_5 l0_5.length c0_5) := (blk_cell BK101.out 5).trans rfl; have hcz30_6 : w28.cell? ⟨gb101, 6, none⟩ = some (.slice A0_6 l0_6.length c0_6) := (blk_cell BK101.out 6).trans rfl; have hcz30_7 : w28.cell? ⟨gb101, 7, none⟩ = some (.slice A0_7 l0_7.length c0_7) := (blk_cell BK101.out 7).trans rfl; have hcz30_8 : w28.cell? ⟨gb101, 8, none⟩ = some (.slice A0_8 l0_8.length c0_8) := (blk_cell BK101.out 8).trans rfl; have hfz30_0 := blk_frozen BK101.out 0; have hfz30_1 := blk_frozen BK101.out 1; have hfz30_2 := blk_frozen BK101.out 2; have hfz30_3 := blk_frozen BK101.out 3; have hfz30_4 := blk_frozen BK101.out 4; have hfz30_5 := blk_frozen BK101.out 5; have hfz30_6 := blk_frozen BK101.out 6; have hfz30_7 := blk_frozen BK101.out 7; have hfz30_8 := blk_frozen BK101.out 8) | ((with_reducible refine gate_callee (f := 73) rfl ?_); refine goesL_ (some 13) rfl rfl Try.func73 (by kernel_rfl) rfl #[.agg #[.int .i64 a0_0, .int .u64 a0_1, .int .u64 a0_2, .int .u64 a0_3, .int .u64 a0_4, .slice A0_5 l0_5.length c0_5, .slice A0_6 l0_6.length c0_6, .slice A0_7 l0_7.length c0_7, .slice A0_8 l0_8.length c0_8]] rfl (by (try simp only [List.map_toArray, List.map_cons, List.map_nil]); first | done | rfl | (simp only [List.length_drop, List.length_take]; rfl)) ?_; (with_reducible refine (rank_Total.calls a0_0 a0_1 a0_2 a0_3 a0_4 _ _ l0_5 _ _ l0_6 _ _ l0_7 _ _ l0_8 t103 t104 _ ?side1 ?side2 ?side3 ?side4 ?side5 ?side6 ?side7 ?side8 A4.out).mono ?_); (case side1 => repeat (first | exact (Kd.C_below HR0_5.out HB.out) | (with_reducible refine Kd.C_alloc ?_ _) | (with_reducible refine Kd.C_drewN ?_ _) | (with_reducible refine Kd.C_drew ?_))); (case side2 => exact HC0_5.out); (case side3 => repeat (first | exact (Kd.C_below HR0_6.out HB.out) | (with_reducible refine Kd.C_alloc ?_ _) | (with_reducible refine Kd.C_drewN ?_ _) | (with_reducible refine Kd.C_drew ?_))); (case side4 => exact HC0_6.out); (case side5 => repeat (first | exact (Kd.C_below HR0_7.out HB.out) | (with_reducible refine Kd.C_alloc ?_ _) | (with_reducible refine Kd.C_drewN ?_ _) | (with_reducible refine Kd.C_drew ?_))); (case side6 => exact HC0_7.out); (case side7 => repeat (first | exact (Kd.C_below HR0_8.out HB.out) | (with_reducible refine Kd.C_alloc ?_ _) | (with_reducible refine Kd.C_drewN ?_ _) | (with_reducible refine Kd.C_drew ?_))); (case side8 => exact HC0_8.out); rintro e w31 ⟨rfl, hb⟩; refine ⟨_, rfl, ?_⟩; have n0_ := Aside0.mk (blk_below (g := gb101) (o := .cells #[.int .i64 a0_0, .int .u64 a0_1, .int .u64 a0_2, .int .u64 a0_3, .int .u64 a0_4, .slice A0_5 l0_5.length c0_5, .slice A0_6 l0_6.length c0_6, .slice A0_7 l0_7.length c0_7, .slice A0_8 l0_8.length c0_8] 30 (0, 0)) (by (with_reducible repeat (first | refine blk_drewN ?_ _ | refine blk_drew ?_ | refine blk_alloc ?_ _)); exact BK101.out) hb); have n1_ := Aside0.mk (blk_below (g := gb102) (o := .cells #[.int .i64 0, .int .i64 0, .int .u64 0] 75 (0, 0)) (by (with_reducible repeat (first | refine blk_drewN ?_ _ | refine blk_drew ?_ | refine blk_alloc ?_ _)); exact BK102.out) hb); have n2_ := Aside0.mk (below_step (by repeat (first | (with_reducible first | exact HB.out | apply below_alloc | apply pw_below_drewN | apply below_drew1 | refine below_set ?_ GE101.out | refine below_set ?_ GE102.out) | exact HB.out)) hb); clear BK101; clear BK102; clear HB; have BK101 := n0_; have BK102 := n1_; have HB := n2_; clear n0_ n1_ n2_; (try clear hb); (try clear hb2); (try clear hk); (try clear hi); clear A4) | ((with_reducible refine gate_callee (f := 76) rfl ?_); refine goesL_ (some 24) rfl rfl Try.func76 (by kernel_rfl) rfl #[.int .u64 t103, .int .u64 a1, .int .u64 a2] rfl (by (try simp only [List.map_toArray, List.map_cons, List.map_nil]); first | done | rfl | (simp only [List.length_drop, List.length_take]; rfl)) ?_; (with_reducible refine (rank_Rank.calls t103 a1 a2 t105 t106 _ A6.out).mono ?_); rintro e w32 ⟨rfl, hb⟩; refine ⟨_, rfl, ?_⟩; have n0_ := Aside0.mk (blk_below (g := gb101) (o := .cells #[.int .i64 a0_0, .int .u64 a0_1, .int .u64 a0_2, .int .u64 a0_3, .int .u64 a0_4, .slice A0_5 l0_5.length c0_5, .slice A0_6 l0_6.length c0_6, .slice A0_7 l0_7.length c0_7, .slice A0_8 l0_8.length c0_8] 30 (0, 0)) (by (with_reducible repeat (first | refine blk_drewN ?_ _ | refine blk_drew ?_ | refine blk_alloc ?_ _)); exact BK101.out) hb); have n1_ := Aside0.mk (blk_below (g := gb102) (o := .cells #[.int .i64 0, .int .i64 0, .int .u64 0] 75 (0, 0)) (by (with_reducible repeat (first | refine blk_drewN ?_ _ | refine blk_drew ?_ | refine blk_alloc ?_ _)); exact BK102.out) hb); have n2_ := Aside0.mk (below_step (by repeat (first | (with_reducible first | exact HB.out | apply below_alloc | apply pw_below_drewN | apply below_drew1 | refine below_set ?_ GE101.out | refine below_set ?_ GE102.out) | exact HB.out)) hb); clear BK101; clear BK102; clear HB; have BK101 := n0_; have BK102 := n1_; have HB := n2_; clear n0_ n1_ n2_; (try clear hb); (try clear hb2); (try clear hk); (try clear hi); clear A6; have hcz33_0 : w32.cell? ⟨gb102, 0, none⟩ = some (.int .i64 0) := (blk_cell BK102.out 0).trans rfl; have hcz33_1 : w32.cell? ⟨gb102, 1, none⟩ = some (.int .i64 0) := (blk_cell BK102.out 1).trans rfl; have hcz33_2 : w32.cell? ⟨gb102, 2, none⟩ = some (.int .u64 0) := (blk_cell BK102.out 2).trans rfl; have hfz33_0 := blk_frozen BK102.out 0; have hfz33_1 := blk_frozen BK102.out 1; have hfz33_2 := blk_frozen BK102.out 2))
   refine bodyPost_ret (results_ct rfl _ _ gb102 75 #[.int .i64 0, .int .i64 0, .int .u64 0] (0, 0) _ rfl (by (with_reducible repeat (first | refine blk_drewN ?_ _ | refine blk_drew ?_ | refine blk_alloc ?_ _)); refine blk_put (cs := #[.int .i64 0, .int .i64 0, .int .u64 0]) ?_ 2 _ rfl; (with_reducible repeat (first | refine blk_drewN ?_ _ | refine blk_drew ?_ | refine blk_alloc ?_ _)); refine blk_put (cs := #[.int .i64 0, .int .i64 0, .int .u64 0]) ?_ 1 _ rfl; (with_reducible repeat (first | refine blk_drewN ?_ _ | refine blk_drew ?_ | refine blk_alloc ?_ _)); refine blk_put (cs := #[.int .i64 0, .int .i64 0, .int .u64 0]) ?_ 0 _ rfl; (with_reducible repeat (first | refine blk_drewN ?_ _ | refine blk_drew ?_ | refine blk_alloc ?_ _)); exact BK102.out) Try.underlying75 rfl (by kernel_rfl)) rfl ?_
   exact ⟨by first | rfl | (simp [errW_none, errW_some] <;> rfl) | (simp [*, errW_none, errW_some] <;> rfl), by repeat (first | (with_reducible first | exact HB.out | apply below_alloc | apply pw_below_drewN | apply below_drew1 | refine below_set ?_ GE101.out | refine below_set ?_ GE102.out) | exact HB.out)⟩
 ·rw [if_neg c5] at H
  have c5b0 : (t104 == 0) = false := beq_eq_false_iff_ne.mpr c5
  have c5b1 : (t104 != 0) = true := bne_iff_ne.mpr c5
  simp only [Option.some.injEq, Prod.mk.injEq] at H
  obtain ⟨rfl, rfl, rfl, rfl⟩ := H
  go_enter Try.func77, Try.ntmps77
  go_wp2_with (first | ((with_reducible refine gate_dst (N := 3) rfl ?_); refine box_event ?hg (N := 3) ?hd (cs := #[.int .i64 a0_0, .int .u64 a0_1, .int .u64 a0_2, .int .u64 a0_3, .int .u64 a0_4, .slice A0_5 l0_5.length c0_5, .slice A0_6 l0_6.length c0_6, .slice A0_7 l0_7.length c0_7, .slice A0_8 l0_8.length c0_8]) (t := 30) ?hr ?_; (case hd => rfl); (case hg => rfl); (case hr => first | (go_simp; done) | (go_simp; rfl)); intro gb101 hg w34 hbox hb; have n0_ := Aside0.mk (below_step (by repeat (first | (with_reducible first | exact HB.out | apply below_alloc | apply pw_below_drewN | apply below_drew1) | exact HB.out)) hb); have n1_ := Aside0.mk (hbox); have n2_ := Aside0.mk ((by rw [hg]; exact (below_size (by repeat (first | (with_reducible first | exact HB.out | apply below_alloc | apply pw_below_drewN | apply below_drew1) | exact HB.out))) : w.heap.size ≤ gb101)); have n3_ := Aside0.mk ((by rw [hg]; exact (below_size (by repeat (first | (with_reducible first | exact HB.out | apply below_alloc | apply pw_below_drewN | apply below_drew1) | exact HB.out))) : w.heap.size ≤ gb101)); clear HB; have HB := n0_; have BK101 := n1_; have GW101 := n2_; have GE101 := n3_; clear n0_ n1_ n2_ n3_; clear hb hbox hg) | ((with_reducible refine gate_dst (N := 6) rfl ?_); refine box_event ?hg (N := 6) ?hd (cs := #[.int .i64 0, .int .i64 0, .int .u64 0]) (t := 75) ?hr ?_; (case hd => rfl); (case hg => rfl); (case hr => first | (go_simp; done) | (go_simp; rfl)); intro gb102 hg w35 hbox hb; have n0_ := Aside0.mk (blk_below (g := gb101) (o := .cells #[.int .i64 a0_0, .int .u64 a0_1, .int .u64 a0_2, .int .u64 a0_3, .int .u64 a0_4, .slice A0_5 l0_5.length c0_5, .slice A0_6 l0_6.length c0_6, .slice A0_7 l0_7.length c0_7, .slice A0_8 l0_8.length c0_8] 30 (0, 0)) (by (with_reducible repeat (first | refine blk_drewN ?_ _ | refine blk_drew ?_ | refine blk_alloc ?_ _)); exact BK101.out) hb); have n1_ := Aside0.mk (below_step (by repeat (first | (with_reducible first | exact HB.out | apply below_alloc | apply pw_below_drewN | apply below_drew1 | refine below_set ?_ GE101.out) | exact HB.out)) hb); have n2_ := Aside0.mk (hbox); have n3_ := Aside0.mk ((by rw [hg]; exact (below_size (by repeat (first | (with_reducible first | exact HB.out | apply below_alloc | apply pw_below_drewN | apply below_drew1 | refine below_set ?_ GE101.out) | exact HB.out))) : w.heap.size ≤ gb102)); have n4_ := Aside0.mk ((by rw [hg]; exact (below_size (by repeat (first | (with_reducible first | exact HB.out | apply below_alloc | apply pw_below_drewN | apply below_drew1 | refine below_set ?_ GE101.out) | exact HB.out))) : w.heap.size ≤ gb102)); have n5_ := Aside0.mk ((by rw [hg]; exact Nat.ne_of_lt (blk_lt (g := gb101) (o := .cells #[.int .i64 a0_0, .int .u64 a0_1, .int .u64 a0_2, .int .u64 a0_3, .int .u64 a0_4, .slice A0_5 l0_5.length c0_5, .slice A0_6 l0_6.length c0_6, .slice A0_7 l0_7.length c0_7, .slice A0_8 l0_8.length c0_8] 30 (0, 0)) (by (with_reducible repeat (first | refine blk_drewN ?_ _ | refine blk_drew ?_ | refine blk_alloc ?_ _)); exact BK101.out)) : gb101 ≠ gb102)); have n6_ := Aside0.mk ((by rw [hg]; exact Nat.ne_of_gt (blk_lt (g := gb101) (o := .cells #[.int .i64 a0_0, .int .u64 a0_1, .int .u64 a0_2, .int .u64 a0_3, .int .u64 a0_4, .slice A0_5 l0_5.length c0_5, .slice A0_6 l0_6.length c0_6, .slice A0_7 l0_7.length c0_7, .slice A0_8 l0_8.length c0_8] 30 (0, 0)) (by (with_reducible repeat (first | refine blk_drewN ?_ _ | refine blk_drew ?_ | refine blk_alloc ?_ _)); exact BK101.out)) : gb102 ≠ gb101)); clear BK101; clear HB; have BK101 := n0_; have HB := n1_; have BK102 := n2_; have GW102 := n3_; have GE102 := n4_; have NB101_102 := n5_; have NB102_101 := n6_; clear n0_ n1_ n2_ n3_ n4_ n5_ n6_; clear hb hbox hg; have hnb36 := NB101_102.out; have hnc36 := NB102_101.out; have hcz37_0 : w35.cell? ⟨gb101, 0, none⟩ = some (.int .i64 a0_0) := (blk_cell BK101.out 0).trans rfl; have hcz37_1 : w35.cell? ⟨gb101, 1, none⟩ = some (.int .u64 a0_1) := (blk_cell BK101.out 1).trans rfl; have hcz37_2 : w35.cell? ⟨gb101, 2, none⟩ = some (.int .u64 a0_2) := (blk_cell BK101.out 2).trans rfl; have hcz37_3 : w35.cell? ⟨gb101, 3, none⟩ = some (.int .u64 a0_3) := (blk_cell BK101.out 3).trans rfl; have hcz37_4 : w35.cell? ⟨gb101, 4, none⟩ = some (.int .u64 a0_4) := (blk_cell BK101.out 4).trans rfl; have hcz37_5 : w35.cell? ⟨gb101, 5, none⟩ = some (.slice A0_5 l0_5.length c0_5) := (blk_cell BK101.out 5).trans rfl; have hcz37_6 : w35.cell? ⟨gb101, 6, none⟩ = some (.slice A0_6 l0_6.length c0_6) := (blk_cell BK101.out 6).trans rfl; have hcz37_7 : w35.cell? ⟨gb101, 7, none⟩ = some (.slice A0_7 l0_7.length c0_7) := (blk_cell BK101.out 7).trans rfl; have hcz37_8 : w35.cell? ⟨gb101, 8, none⟩ = some (.slice A0_8 l0_8.length c0_8) := (blk_cell BK101.out 8).trans rfl; have hfz37_0 := blk_frozen BK101.out 0; have hfz37_1 := blk_frozen BK101.out 1; have hfz37_2 := blk_frozen BK101.out 2; have hfz37_3 := blk_frozen BK101.out 3; have hfz37_4 := blk_frozen BK101.out 4; have hfz37_5 := blk_frozen BK101.out 5; have hfz37_6 := blk_frozen BK101.out 6; have hfz37_7 := blk_frozen BK101.out 7; have hfz37_8 := blk_frozen BK101.out 8) | ((with_reducible refine gate_callee (f := 73) rfl ?_); refine goesL_ (some 13) rfl rfl Try.func73 (by kernel_rfl) rfl #[.agg #[.int .i64 a0_0, .int .u64 a0_1, .int .u64 a0_2, .int .u64 a0_3, .int .u64 a0_4, .slice A0_5 l0_5.length c0_5, .slice A0_6 l0_6.length c0_6, .slice A0_7 l0_7.length c0_7, .slice A0_8 l0_8.length c0_8]] rfl (by (try simp only [List.map_toArray, List.map_cons, List.map_nil]); first | done | rfl | (simp only [List.length_drop, List.length_take]; rfl)) ?_; (with_reducible refine (rank_Total.calls a0_0 a0_1 a0_2 a0_3 a0_4 _ _ l0_5 _ _ l0_6 _ _ l0_7 _ _ l0_8 t103 t104 _ ?side1 ?side2 ?side3 ?side4 ?side5 ?side6 ?side7 ?side8 A4.out).mono ?_); (case side1 => repeat (first | exact (Kd.C_below HR0_5.out HB.out) | (with_reducible refine Kd.C_alloc ?_ _) | (with_reducible refine Kd.C_drewN ?_ _) | (with_reducible refine Kd.C_drew ?_))); (case side2 => exact HC0_5.out); (case side3 => repeat (first | exact (Kd.C_below HR0_6.out HB.out) | (with_reducible refine Kd.C_alloc ?_ _) | (with_reducible refine Kd.C_drewN ?_ _) | (with_reducible refine Kd.C_drew ?_))); (case side4 => exact HC0_6.out); (case side5 => repeat (first | exact (Kd.C_below HR0_7.out HB.out) | (with_reducible refine Kd.C_alloc ?_ _) | (with_reducible refine Kd.C_drewN ?_ _) | (with_reducible refine Kd.C_drew ?_))); (case side6 => exact HC0_7.out); (case side7 => repeat (first | exact (Kd.C_below HR0_8.out HB.out) | (with_reducible refine Kd.C_alloc ?_ _) | (with_reducible refine Kd.C_drewN ?_ _) | (with_reducible refine Kd.C_drew ?_))); (case side8 => exact HC0_8.out); rintro e w38 ⟨rfl, hb⟩; refine ⟨_, rfl, ?_⟩; have n0_ := Aside0.mk (blk_below (g := gb101) (o := .cells #[.int .i64 a0_0, .int .u64 a0_1, .int .u64 a0_2, .int .u64 a0_3, .int .u64 a0_4, .slice A0_5 l0_5.length c0_5, .slice A0_6 l0_6.length c0_6, .slice A0_7 l0_7.length c0_7, .slice A0_8 l0_8.length c0_8] 30 (0, 0)) (by (with_reducible repeat (first | refine blk_drewN ?_ _ | refine blk_drew ?_ | refine blk_alloc ?_ _)); exact BK101.out) hb); have n1_ := Aside0.mk (blk_below (g := gb102) (o := .cells #[.int .i64 0, .int .i64 0, .int .u64 0] 75 (0, 0)) (by (with_reducible repeat (first | refine blk_drewN ?_ _ | refine blk_drew ?_ | refine blk_alloc ?_ _)); exact BK102.out) hb); have n2_ := Aside0.mk (below_step (by repeat (first | (with_reducible first | exact HB.out | apply below_alloc | apply pw_below_drewN | apply below_drew1 | refine below_set ?_ GE101.out | refine below_set ?_ GE102.out) | exact HB.out)) hb); clear BK101; clear BK102; clear HB; have BK101 := n0_; have BK102 := n1_; have HB := n2_; clear n0_ n1_ n2_; (try clear hb); (try clear hb2); (try clear hk); (try clear hi); clear A4; have hcz39_0 : w38.cell? ⟨gb102, 0, none⟩ = some (.int .i64 0) := (blk_cell BK102.out 0).trans rfl; have hcz39_1 : w38.cell? ⟨gb102, 1, none⟩ = some (.int .i64 0) := (blk_cell BK102.out 1).trans rfl; have hcz39_2 : w38.cell? ⟨gb102, 2, none⟩ = some (.int .u64 0) := (blk_cell BK102.out 2).trans rfl; have hfz39_0 := blk_frozen BK102.out 0; have hfz39_1 := blk_frozen BK102.out 1; have hfz39_2 := blk_frozen BK102.out 2))
  refine bodyPost_ret (results_ct rfl _ _ gb102 75 #[.int .i64 0, .int .i64 0, .int .u64 0] (0, 0) _ rfl (by (with_reducible repeat (first | refine blk_drewN ?_ _ | refine blk_drew ?_ | refine blk_alloc ?_ _)); refine blk_put (cs := #[.int .i64 0, .int .i64 0, .int .u64 0]) ?_ 2 _ rfl; (with_reducible repeat (first | refine blk_drewN ?_ _ | refine blk_drew ?_ | refine blk_alloc ?_ _)); refine blk_put (cs := #[.int .i64 0, .int .i64 0, .int .u64 0]) ?_ 1 _ rfl; (with_reducible repeat (first | refine blk_drewN ?_ _ | refine blk_drew ?_ | refine blk_alloc ?_ _)); refine blk_put (cs := #[.int .i64 0, .int .i64 0, .int .u64 0]) ?_ 0 _ rfl; (with_reducible repeat (first | refine blk_drewN ?_ _ | refine blk_drew ?_ | refine blk_alloc ?_ _)); exact BK102.out) Try.underlying75 rfl (by kernel_rfl)) rfl ?_
  exact ⟨by first | rfl | (simp [errW_none, errW_some] <;> rfl) | (simp [*, errW_none, errW_some] <;> rfl), by repeat (first | (with_reducible first | exact HB.out | apply below_alloc | apply pw_below_drewN | apply below_drew1 | refine below_set ?_ GE101.out | refine below_set ?_ GE102.out) | exact HB.out)⟩
end Go.Proofs.Ytgkplhdcafbfbaa.P
namespace Go.Proofs.Ytgkplhdcafbfbaa.P
open Go.RowKit Go.Shelf Go.Proofs.YtgkplhdcafbfbaaW.PrintWords Go.Proofs.YtgkplhdcafbfbaaW.PrintLast Go.Proofs.YtgkplhdcafbfbaaW.PrintMore
def oneR : Hi := ⟨0, 0, 1, 6, 0, [⟨7, 1⟩], [⟨5, 1⟩], [3], [2]⟩
theorem oneR_wf : wfH oneR := by unfold wfH; decide
theorem aw29_1 : totalR oneR = (6, 0) := by kernel_rfl
theorem aw29_2 : atR oneR 2 = (⟨1, 5, 2⟩, 0) := by kernel_rfl
theorem aw29_3 : atR oneR 7 = (⟨0, 0, 0⟩, 11) := by kernel_rfl
theorem aw29_4 : belowR oneR 0 6 = (3, 0) := by kernel_rfl
theorem one29_x (w : World) : Calls Try.prog 74 #[] w fun e w' => ∃ oA5 oc5 oA6 oc6 oA7 oc7 oA8 oc8, e = .returned (.agg #[.int .i64 0, .int .u64 0, .int .u64 1, .int .u64 6, .int .u64 0, .slice oA5 1 oc5, .slice oA6 1 oc6, .slice oA7 1 oc7, .slice oA8 1 oc8]) ∧ HI w' (.agg #[.int .i64 0, .int .u64 0, .int .u64 1, .int .u64 6, .int .u64 0, .slice oA5 1 oc5, .slice oA6 1 oc6, .slice oA7 1 oc7, .slice oA8 1 oc8]) oneR ∧ Below w.heap.size w w' := by
  refine (tidepolelaw29_one.calls 0 0 1 6 0 [⟨7, 1⟩] [⟨5, 1⟩] [3] [2] w (by kernel_rfl)).mono ?_
  rintro e w1 ⟨v5, v6, v7, v8, rfl, h5, h6, h7, h8, hb⟩
  have hi : HI w1 (.agg #[.int .i64 0, .int .u64 0, .int .u64 1, .int .u64 6, .int .u64 0, v5, v6, v7, v8]) oneR := ⟨v5, v6, v7, v8, rfl, .of_R h5, .of_R h6, .of_R h7, .of_R h8⟩
  obtain ⟨a5, c5, a6, c6, a7, c7, a8, c8, e, -⟩ := hi.open_
  rw [e] at hi ⊢
  exact ⟨a5, c5, a6, c6, a7, c7, a8, c8, rfl, hi, hb⟩
theorem total_x (w : World) (v : Value) (hv : HI w v oneR) : Calls Try.prog 73 #[v] w fun e w' => e = .returned (.tuple #[.int .u64 6, .int .i64 0]) ∧ Below w.heap.size w w' := by
  have := total_c oneR oneR_wf w v hv
  rwa [aw29_1] at this
theorem at_x (w : World) (v : Value) (hv : HI w v oneR) : Calls Try.prog 34 #[v, .int .u64 2] w fun e w' => e = .returned (.tuple #[.agg #[.int .i64 1, .int .i64 5, .int .u64 2], .int .i64 0]) ∧ Below w.heap.size w w' := by
  have := at_c oneR oneR_wf 2 (by decide) w v hv
  rwa [aw29_2] at this
theorem at_x7 (w : World) (v : Value) (hv : HI w v oneR) : Calls Try.prog 34 #[v, .int .u64 7] w fun e w' => e = .returned (.tuple #[.agg #[.int .i64 0, .int .i64 0, .int .u64 0], .int .i64 11]) ∧ Below w.heap.size w w' := by
  have := at_c oneR oneR_wf 7 (by decide) w v hv
  rwa [aw29_3] at this
theorem below_x (w : World) (v : Value) (hv : HI w v oneR) : Calls Try.prog 75 #[v, .int .i64 0, .int .i64 6] w fun e w' => e = .returned (.tuple #[.int .u64 3, .int .i64 0]) ∧ Below w.heap.size w w' := by
  have := below_c oneR oneR_wf 0 6 w v hv
  rwa [aw29_4] at this
theorem rank_x (w : World) : Calls Try.prog 76 #[.int .u64 6, .int .u64 1, .int .u64 2] w fun e w' => e = .returned (.tuple #[.int .u64 3, .int .i64 0]) ∧ Below w.heap.size w w' :=
  rank_Rank.calls 6 1 2 3 0 w (by kernel_rfl)
theorem quant_x (w : World) (v : Value) (hv : HI w v oneR) : Calls Try.prog 77 #[v, .int .u64 1, .int .u64 2] w fun e w' => e = .returned (.tuple #[.agg #[.int .i64 2, .int .i64 0, .int .u64 1], .int .i64 0]) ∧ Below w.heap.size w w' := by
  obtain ⟨A5, c5, A6, c6, A7, c7, A8, c8, rfl, ⟨_, _, e5, h51, h52⟩, ⟨_, _, e6, h61, h62⟩, ⟨_, _, e7, h71, h72⟩, ⟨_, _, e8, h81, h82⟩⟩ := hv.open_
  cases e5; cases e6; cases e7; cases e8
  exact rank_Quantile.calls 0 0 1 6 0 A5 c5 _ A6 c6 _ A7 c7 _ A8 c8 _ 1 2 2 0 1 0 w h52 h51 h62 h61 h72 h71 h82 h81 (by kernel_rfl)
theorem quant_x0 (w : World) : Calls Try.prog 77 #[.agg #[.int .i64 0, .int .u64 0, .int .u64 0, .int .u64 0, .int .u64 0, .slice none 0 0, .slice none 0 0, .slice none 0 0, .slice none 0 0], .int .u64 1, .int .u64 2] w fun e w' => e = .returned (.tuple #[.agg #[.int .i64 0, .int .i64 0, .int .u64 0], .int .i64 14]) ∧ Below w.heap.size w w' :=
  rank_Quantile.calls 0 0 0 0 0 none 0 [] none 0 [] none 0 [] none 0 [] 1 2 0 0 0 14 w (Kd.C_nil _ _) (Nat.le_refl _) (Kd.C_nil _ _) (Nat.le_refl _) (Kd.C_nil _ _) (Nat.le_refl _) (Kd.C_nil _ _) (Nat.le_refl _) (by kernel_rfl)
set_option maxHeartbeats 16000000 in
set_option maxRecDepth 100000 in
theorem awake29_c (w : World) : Calls Try.prog 33 #[] w fun e w' => e = .returned (.bool true) ∧ Below w.heap.size w w' := by
  have hu := Try.underlying30
  have hpu := Try.underlying75
  go_enter Try.func33, Try.ntmps33
  go_wp2_with fail
  refine (one29_x w).mono ?_
  rintro e w1 ⟨oA5, oc5, oA6, oc6, oA7, oc7, oA8, oc8, rfl, hh, hb⟩
  have B := Aside0.mk hb
  have O := Aside0.mk hh
  clear hb hh
  go_wp2_with fail
  refine (total_x _ _ O.out).mono ?_
  rintro e w2 ⟨rfl, hb⟩
  replace B := Aside0.mk (below_then B.out B.out.size hb)
  replace O := Aside0.mk (O.out.below hb)
  clear hb
  go_wp2_with fail
  refine (one29_x _).mono ?_
  rintro e w3 ⟨pA5, pc5, pA6, pc6, pA7, pc7, pA8, pc8, rfl, hh, hb⟩
  replace B := Aside0.mk (below_then B.out B.out.size hb)
  replace O := Aside0.mk (O.out.below hb)
  have P := Aside0.mk hh
  clear hb hh
  go_wp2_with fail
  refine (at_x _ _ P.out).mono ?_
  rintro e w4 ⟨rfl, hb⟩
  replace B := Aside0.mk (below_then B.out B.out.size hb)
  replace O := Aside0.mk (O.out.below hb)
  replace P := Aside0.mk (P.out.below hb)
  clear hb
  go_wp2_with fail
  refine (one29_x _).mono ?_
  rintro e w5 ⟨qA5, qc5, qA6, qc6, qA7, qc7, qA8, qc8, rfl, hh, hb⟩
  have hb0 := hb
  have hb := below_then (below_alloc (Below.refl w4.heap.size w4) (.cells #[.int .i64 1, .int .i64 5, .int .u64 2] 75)) ((below_alloc (Below.refl w4.heap.size w4) (.cells #[.int .i64 1, .int .i64 5, .int .u64 2] 75))).size hb
  replace B := Aside0.mk (below_then B.out B.out.size hb)
  replace O := Aside0.mk (O.out.below hb)
  replace P := Aside0.mk (P.out.below hb)
  have T1 := Aside0.mk (show Blk w5 w4.heap.size #[.int .i64 1, .int .i64 5, .int .u64 2] 75 from (Blk.new w4 #[.int .i64 1, .int .i64 5, .int .u64 2] 75).below hb0)
  have ht1 := fun i => T1.out.cell i
  have Q := Aside0.mk hh
  clear hb hb0 hh
  go_wp2_with fail
  refine (at_x7 _ _ Q.out).mono ?_
  rintro e w6 ⟨rfl, hb⟩
  replace B := Aside0.mk (below_then B.out B.out.size hb)
  replace O := Aside0.mk (O.out.below hb)
  replace P := Aside0.mk (P.out.below hb)
  replace Q := Aside0.mk (Q.out.below hb)
  replace T1 := Aside0.mk (T1.out.below hb)
  replace ht1 := fun i => T1.out.cell i
  clear hb
  go_wp2_with fail
  refine (one29_x _).mono ?_
  rintro e w7 ⟨rA5, rc5, rA6, rc6, rA7, rc7, rA8, rc8, rfl, hh, hb⟩
  have hb0 := hb
  have hb := below_then (below_alloc (Below.refl w6.heap.size w6) (.cells #[.int .i64 0, .int .i64 0, .int .u64 0] 75)) ((below_alloc (Below.refl w6.heap.size w6) (.cells #[.int .i64 0, .int .i64 0, .int .u64 0] 75))).size hb
  replace B := Aside0.mk (below_then B.out B.out.size hb)
  replace O := Aside0.mk (O.out.below hb)
  replace P := Aside0.mk (P.out.below hb)
  replace Q := Aside0.mk (Q.out.below hb)
  replace T1 := Aside0.mk (T1.out.below hb)
  replace ht1 := fun i => T1.out.cell i
  have R := Aside0.mk hh
  clear hb hb0 hh
  go_wp2_with fail
  refine (below_x _ _ R.out).mono ?_
  rintro e w8 ⟨rfl, hb⟩
  replace B := Aside0.mk (below_then B.out B.out.size hb)
  replace O := Aside0.mk (O.out.below hb)
  replace P := Aside0.mk (P.out.below hb)
  replace Q := Aside0.mk (Q.out.below hb)
  replace R := Aside0.mk (R.out.below hb)
  replace T1 := Aside0.mk (T1.out.below hb)
  replace ht1 := fun i => T1.out.cell i
  clear hb
  go_wp2_with fail
  refine (rank_x _).mono ?_
  rintro e w9 ⟨rfl, hb⟩
  replace B := Aside0.mk (below_then B.out B.out.size hb)
  replace O := Aside0.mk (O.out.below hb)
  replace P := Aside0.mk (P.out.below hb)
  replace Q := Aside0.mk (Q.out.below hb)
  replace R := Aside0.mk (R.out.below hb)
  replace T1 := Aside0.mk (T1.out.below hb)
  replace ht1 := fun i => T1.out.cell i
  clear hb
  go_wp2_with fail
  refine (one29_x _).mono ?_
  rintro e w10 ⟨sA5, sc5, sA6, sc6, sA7, sc7, sA8, sc8, rfl, hh, hb⟩
  replace B := Aside0.mk (below_then B.out B.out.size hb)
  replace O := Aside0.mk (O.out.below hb)
  replace P := Aside0.mk (P.out.below hb)
  replace Q := Aside0.mk (Q.out.below hb)
  replace R := Aside0.mk (R.out.below hb)
  replace T1 := Aside0.mk (T1.out.below hb)
  replace ht1 := fun i => T1.out.cell i
  have S := Aside0.mk hh
  clear hb hh
  go_wp2_with fail
  refine (quant_x _ _ S.out).mono ?_
  rintro e w11 ⟨rfl, hb⟩
  replace B := Aside0.mk (below_then B.out B.out.size hb)
  replace O := Aside0.mk (O.out.below hb)
  replace P := Aside0.mk (P.out.below hb)
  replace Q := Aside0.mk (Q.out.below hb)
  replace R := Aside0.mk (R.out.below hb)
  replace S := Aside0.mk (S.out.below hb)
  replace T1 := Aside0.mk (T1.out.below hb)
  replace ht1 := fun i => T1.out.cell i
  clear hb
  go_wp2_with fail
  refine (quant_x0 _).mono ?_
  rintro e w12 ⟨rfl, hb⟩
  have hb0 := hb
  have hb := below_then (below_alloc (Below.refl w11.heap.size w11) (.cells #[.int .i64 2, .int .i64 0, .int .u64 1] 75)) ((below_alloc (Below.refl w11.heap.size w11) (.cells #[.int .i64 2, .int .i64 0, .int .u64 1] 75))).size hb
  replace B := Aside0.mk (below_then B.out B.out.size hb)
  replace O := Aside0.mk (O.out.below hb)
  replace P := Aside0.mk (P.out.below hb)
  replace Q := Aside0.mk (Q.out.below hb)
  replace R := Aside0.mk (R.out.below hb)
  replace S := Aside0.mk (S.out.below hb)
  replace T1 := Aside0.mk (T1.out.below hb)
  replace ht1 := fun i => T1.out.cell i
  have T3 := Aside0.mk (show Blk w12 w11.heap.size #[.int .i64 2, .int .i64 0, .int .u64 1] 75 from (Blk.new w11 #[.int .i64 2, .int .i64 0, .int .u64 1] 75).below hb0)
  have ht3 := fun i => T3.out.cell i
  clear hb hb0
  have hal := below_alloc (Below.refl w12.heap.size w12) (.cells #[.int .i64 0, .int .i64 0, .int .u64 0] 75)
  replace B := Aside0.mk (below_then B.out B.out.size hal)
  replace T1 := Aside0.mk (T1.out.alloc (.cells #[.int .i64 0, .int .i64 0, .int .u64 0] 75))
  replace ht1 := fun i => T1.out.cell i
  replace T3 := Aside0.mk (T3.out.alloc (.cells #[.int .i64 0, .int .i64 0, .int .u64 0] 75))
  replace ht3 := fun i => T3.out.cell i
  go_wp2_with fail
  go_ret
  exact ⟨rfl, B.out⟩
end Go.Proofs.Ytgkplhdcafbfbaa.P
