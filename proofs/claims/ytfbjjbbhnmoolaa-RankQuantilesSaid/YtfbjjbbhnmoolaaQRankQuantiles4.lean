/- RankQuantiles: the part that this text bears of the proof that the statement answers true for every input. No condition. -/
import Derived.Test.YtfbjjbbhnmoolaaProg
import Derived.Below
import Derived.Deep.Draws
import Derived.Deep.AppendLies
import Derived.Maps.AppendAt
import Derived.OwnWalk
import Derived.Laws.BytesArg
import Derived.Laws.MakeOwn
import Derived.Laws.OwnMore
import Derived.Deep.OwnRows
import Derived.Tactics
import Derived.Lib.ConvBytes
import Derived.Laws.Slices
import Derived.WalkKit
import Derived.KernelRfl
import Derived.RowKit3
import Derived.Deep.LoopGhost
import Derived.Deep.QuietTactic
import Derived.BigQuiet
import Derived.WideLaws
import Derived.Deep.DeepCutAuto
import Derived.Deep.CutBlock
import Derived.Deep.RegionHeld3
import Derived.Laws.Rows
import Derived.Lib.AppendStr
import Derived.ArgAppend
import Derived.Laws.IdiomCopy
import Derived.OrdersHeld
import Derived.Laws.BitsLemmas
import Derived.RowKit
import Derived.Shelf.Abstract
import Derived.WalkSpells
import Derived.RangeFuncNested
import Derived.RangeFuncBound
import Derived.RangeFuncCalls
import Derived.RangeFuncLeaves
import Derived.RangeFuncBox
import Derived.OwnWalkIn
import Derived.TacticsInMore
import Derived.LoopNIn
import Derived.LoopIn
import Derived.Deep.Slices
import Derived.ChangeArms
import Derived.Laws.Externs
import Derived.Shelf.Spec.BitsCarry
import Derived.RegionIn
import Derived.Sort.QuietTacIn
import Derived.Deep.RegionWith
import Derived.Laws.BitsAllLaws
import Derived.Shelf.Lays
import Derived.Shelf.Strings.Builder1
import Derived.Shelf.Small.Bits
import Derived.Shelf.Bits.Mul64
import Derived.ProofKit
import Derived.JoinedOf
import Derived.OpenShut
import Derived.ShutString
import Derived.ChangeOld
import Derived.SizedLaws
import Derived.JoinedTies
import Derived.Laws.StructEq
import Derived.Test.YtfbjjbbhnmoolaaChecked
import GoSem.Claim
import GoSem.ClaimJoined
import GoSem.ClaimMapViews
import Derived.Test.YtfbjjbbhnmoolaaQRankQuantilesWWords
import Derived.Test.YtfbjjbbhnmoolaaQRankQuantilesWLast
import Derived.Test.YtfbjjbbhnmoolaaQRankQuantilesWTab
import Derived.Test.YtfbjjbbhnmoolaaQRankQuantilesWFour
import Derived.Test.YtfbjjbbhnmoolaaQRankQuantilesWQPut
import Derived.Test.YtfbjjbbhnmoolaaQRankQuantilesWApart
import Derived.Test.YtfbjjbbhnmoolaaQRankQuantilesWArr
import Derived.Test.YtfbjjbbhnmoolaaQRankQuantilesWZeros
import Derived.Test.YtfbjjbbhnmoolaaQRankQuantilesWFoot
import Derived.Test.YtfbjjbbhnmoolaaQRankQuantilesWKept
import Derived.Test.YtfbjjbbhnmoolaaQRankQuantilesWShare
import Derived.Test.YtfbjjbbhnmoolaaQRankQuantilesWN
import Derived.Test.YtfbjjbbhnmoolaaQRankQuantilesWFootNe
import Derived.Test.YtfbjjbbhnmoolaaQRankQuantilesWAt
import Derived.Test.YtfbjjbbhnmoolaaQRankQuantilesWEqStruct
import Derived.Test.YtfbjjbbhnmoolaaQRankQuantilesWRepsOne
import Derived.Test.YtfbjjbbhnmoolaaQRankQuantilesWInv
import Derived.Test.YtfbjjbbhnmoolaaQRankQuantilesWInvWords
import Derived.Test.YtfbjjbbhnmoolaaQRankQuantilesWGuard
import Derived.Test.YtfbjjbbhnmoolaaQRankQuantilesWNEv
import Derived.Test.YtfbjjbbhnmoolaaQRankQuantilesWMore
import Derived.Test.YtfbjjbbhnmoolaaRows
import Derived.Test.YtfbjjbbhnmoolaaQRankQuantiles0
import Derived.Test.YtfbjjbbhnmoolaaQRankQuantiles1
import Derived.Test.YtfbjjbbhnmoolaaQRankQuantiles2
import Derived.Test.YtfbjjbbhnmoolaaQRankQuantiles3
set_option linter.unusedVariables false
set_option linter.unusedSimpArgs false
namespace Go.Proofs.Ytfbjjbbhnmoolaa.P
open Go.RowKit Go.Shelf Go.Proofs.YtfbjjbbhnmoolaaW.PrintWords Go.Proofs.YtfbjjbbhnmoolaaW.PrintLast Go.Proofs.YtfbjjbbhnmoolaaW.PrintMore
theorem order_l1 (l : List Pr) (hp : cnts l) (hl : l.length ≤ 4096) (acc : List Bk) (ha : acc.length ≤ 4097) : ∀ (d k i : Nat), l.length - i = d → d < k → i ≤ l.length →
    tidepoleref29_Order.l1 k ((acc ++ segW 0 (l.take i)).map toRb) (l.map (·.f0)) (l.map (·.f1)) (i : Int) = some ((acc ++ segW 0 l).map toRb) := by
  intro d
  induction d with
  | zero =>
    intro k i hd hk hi
    obtain ⟨k, rfl⟩ : ∃ m, k = m + 1 := ⟨k - 1, by omega⟩
    rw [tidepoleref29_Order.l1, if_neg (by simp; omega), List.take_of_length_le (by omega)]
  | succ d ih =>
    intro k i hd hk hi
    obtain ⟨k, rfl⟩ : ∃ m, k = m + 1 := ⟨k - 1, by omega⟩
    have hlt : i < l.length := by omega
    have hc := hp l[i] (List.getElem_mem hlt)
    have hsl : (segW 0 (l.take i)).length ≤ l.length := by unfold segW; rw [List.length_map]; exact Nat.le_trans (List.length_filter_le _ _) (by rw [List.length_take]; omega)
    rw [tidepoleref29_Order.l1, if_pos (by simp; omega), if_pos (by omega), if_pos (by simp; omega), rd_map (·.f0) hlt, rd_map (·.f1) hlt, wrap_succ (by omega), ← ih k (i + 1) (by omega) (by omega) (by omega), take_at hlt, segW_snoc]
    by_cases c : 0 < l[i].f1
    · rw [if_pos c, if_pos c, if_pos (by rw [List.length_map, List.length_append]; omega), u64_wrap ⟨by omega, by omega⟩]
      simp only [List.map_append, List.map_cons, List.map_nil, List.append_assoc]
      rfl
    · rw [if_neg c, if_neg c, List.append_nil]
theorem order_l0 (h : Hi) (l : List Pr) (hp : cnts l) (hl : l.length ≤ 4096) (r : List Bk) (K : Nat)
    (hz : ∀ k, K ≤ k → tidepoleref29_Order.j1 k (((segW 1 l.reverse) ++ (if h.f2 = 0 then [] else [(⟨2, 0, h.f2⟩ : Bk)])).map toRb) h.f0 h.f1 h.f2 h.f3 h.f4 (h.f5.map toR) (h.f6.map toR) h.f7 h.f8 = some (r.map toRb)) (h2 : u64 h.f2) : ∀ (i k : Nat), K + i < k → i ≤ l.length →
    tidepoleref29_Order.l0 k ((segW 1 (l.drop i).reverse).map toRb) (l.map (·.f0)) (l.map (·.f1)) ((i : Int) - 1) h.f0 h.f1 h.f2 h.f3 h.f4 (h.f5.map toR) (h.f6.map toR) h.f7 h.f8 = some (r.map toRb) := by
  intro i
  induction i with
  | zero =>
    intro k hk hi
    obtain ⟨k, rfl⟩ : ∃ m, k = m + 1 := ⟨k - 1, by omega⟩
    have hsl : (segW 1 (l.drop 0).reverse).length ≤ l.length := by unfold segW; rw [List.length_map]; exact Nat.le_trans (List.length_filter_le _ _) (by simp)
    rw [tidepoleref29_Order.l0, if_neg (by omega)]
    have := hz k (by omega)
    rw [List.drop_zero] at hsl ⊢
    by_cases c : h.f2 = 0
    · rw [if_pos c, List.append_nil] at this
      rw [if_neg (by omega)]
      exact this
    · rw [if_neg c, List.map_append] at this
      rw [if_pos (by have := h2.1; omega), if_pos (by rw [List.length_map]; omega)]
      exact this
  | succ i ih =>
    intro k hk hi
    obtain ⟨k, rfl⟩ : ∃ m, k = m + 1 := ⟨k - 1, by omega⟩
    have hlt : i < l.length := by omega
    have hc := hp l[i] (List.getElem_mem hlt)
    have hsl : (segW 1 (l.drop (i + 1)).reverse).length ≤ l.length := by unfold segW; rw [List.length_map]; exact Nat.le_trans (List.length_filter_le _ _) (by simp)
    have e : ((i + 1 : Nat) : Int) - 1 = (i : Int) := by omega
    rw [tidepoleref29_Order.l0, e, if_pos (by omega), if_pos (by omega), if_pos (by simp; omega), rd_map (·.f0) hlt, rd_map (·.f1) hlt, wrap_id (by omega) (by omega), ← ih k (by omega) (by omega)]
    have hd : l.drop i = l[i] :: l.drop (i + 1) := List.drop_eq_getElem_cons hlt
    rw [hd, List.reverse_cons, segW_snoc]
    by_cases c : 0 < l[i].f1
    · rw [if_pos c, if_pos c, if_pos (by simp; omega), if_pos (by rw [List.length_map]; omega), u64_wrap ⟨by omega, by omega⟩, List.map_append]
      rfl
    · rw [if_neg c, if_neg c, List.append_nil]
theorem order29_eq (h : Hi) (hw : wfH h) (hc : checkR h = 0) (k : Nat) (hk : 5140000 ≤ k) :
    tidepoleref29_Order.f k h.f0 h.f1 h.f2 h.f3 h.f4 (h.f5.map toR) (h.f6.map toR) h.f7 h.f8 = some ((toldW h).map toRb) := by
  obtain ⟨w0, w1, w2, w3, w4, w5, w6, w7, w8, w9, w10⟩ := hw
  have r5 := sideRes_row (l := h.f5) w7
  have r6 := sideRes_row (l := h.f6) w8
  obtain ⟨c1, c2, c3, c4⟩ := checkR_zero hc
  have n7 := (side_bounds c2).2.1
  have n8 := (side_bounds c3).2.1
  have ht : toldW h = segW 1 (sideRes h.f6 h.f8).1.reverse ++ ((if h.f2 = 0 then [] else [⟨2, 0, h.f2⟩]) ++ segW 0 (sideRes h.f5 h.f7).1) := by
    unfold toldW; rw [if_pos hc, openR_right hc]
  rw [ht]
  unfold tidepoleref29_Order.f
  rw [refSide_eq h.f6 h.f8 w6 w8 w10 k (by have := r6.len; omega)]
  simp only [Option.bind_some, sideRef]
  rw [List.length_map, wrap_id (by have := r6.len; omega) (by have := r6.len; omega)]
  have h0 := order_l0 h (sideRes h.f6 h.f8).1 r6.cnt r6.len (segW 1 (sideRes h.f6 h.f8).1.reverse ++ ((if h.f2 = 0 then [] else [⟨2, 0, h.f2⟩]) ++ segW 0 (sideRes h.f5 h.f7).1)) 5130000 (fun k hk => by
    obtain ⟨k, rfl⟩ : ∃ m, k = m + 1 := ⟨k - 1, by omega⟩
    rw [tidepoleref29_Order.j1, refSide_eq h.f5 h.f7 w5 w7 w9 k (by have := r5.len; omega)]
    simp only [Option.bind_some, sideRef]
    have hal : (segW 1 (sideRes h.f6 h.f8).1.reverse ++ (if h.f2 = 0 then [] else [(⟨2, 0, h.f2⟩ : Bk)])).length ≤ 4097 := by
      have : (segW 1 (sideRes h.f6 h.f8).1.reverse).length ≤ 4096 := by unfold segW; rw [List.length_map]; exact Nat.le_trans (List.length_filter_le _ _) (by rw [List.length_reverse]; exact r6.len)
      rw [List.length_append]
      by_cases z : h.f2 = 0
      · rw [if_pos z]; simp; omega
      · rw [if_neg z]; simp; omega
    have := order_l1 (sideRes h.f5 h.f7).1 r5.cnt r5.len _ hal (sideRes h.f5 h.f7).1.length k 0 (by omega) (by have := r5.len; omega) (by omega)
    rw [List.take_zero, show segW 0 [] = [] from rfl, List.append_nil, List.append_assoc] at this
    exact this) w2 (sideRes h.f6 h.f8).1.length k (by have := r6.len; omega) (Nat.le_refl _)
  rw [List.drop_length] at h0
  exact h0
end Go.Proofs.Ytfbjjbbhnmoolaa.P
namespace Go.Proofs.Ytfbjjbbhnmoolaa.P
open Go.RowKit Go.Shelf Go.Proofs.YtfbjjbbhnmoolaaW.PrintWords Go.Proofs.YtfbjjbbhnmoolaaW.PrintLast Go.Proofs.YtfbjjbbhnmoolaaW.PrintMore
theorem sumB_nonneg : ∀ {l : List Bk}, (∀ b ∈ l, 0 ≤ b.n) → 0 ≤ sumB l
  | [], _ => by simp [sumB]
  | b :: l, h => by
    have h1 := sumB_nonneg (l := l) (fun x hx => h x (List.mem_cons_of_mem _ hx))
    have h2 := h b (List.mem_cons_self ..)
    simp only [sumB]; omega
theorem sumB_segW (s : Int) : ∀ (l : List Pr), (∀ p ∈ l, 0 ≤ p.f1) → sumB (segW s l) = sumV l
  | [], _ => by simp [segW, sumB, sumV]
  | p :: l, h => by
    have h1 := sumB_segW s l (fun x hx => h x (List.mem_cons_of_mem _ hx))
    have h2 := h p (List.mem_cons_self ..)
    have e : sumV (p :: l) = p.f1 + sumV l := by simp [sumV]
    unfold segW at h1 ⊢
    rw [List.filter_cons, e]
    by_cases c : 0 < p.f1
    · rw [if_pos (by simpa using c), List.map_cons]; simp only [sumB]; omega
    · rw [if_neg (by simpa using c)]; omega
theorem sumV_reverse (l : List Pr) : sumV l.reverse = sumV l := by simp [sumV, List.map_reverse, List.sum_reverse]
theorem told_sum {h : Hi} (hw : wfH h) (hc : checkR h = 0) : 0 ≤ sumB (toldW h) ∧ sumB (toldW h) ≤ h.f3 := by
  refine ⟨sumB_nonneg (fun b hb => (toldW_u64 hw b hb).1), ?_⟩
  have hrow := openR_row hw
  obtain ⟨c1, c2, c3, c4⟩ := checkR_zero hc
  have ho := openR_right hc
  have e5 : (openR h).1 = (sideRes h.f5 h.f7).1 := by rw [ho]
  have e6 : (openR h).2.1 = (sideRes h.f6 h.f8).1 := by rw [ho]
  rw [← e5, ← e6] at c4
  have hp : ∀ p ∈ (openR h).1, 0 ≤ p.f1 := fun p hp => (hrow.1.cnt p hp).2.1
  have hn : ∀ p ∈ (openR h).2.1, 0 ≤ p.f1 := fun p hp => (hrow.2.cnt p hp).2.1
  unfold toldW
  rw [if_pos hc, sumB_app, sumB_app, sumB_segW 0 _ hp, sumB_segW 1 _ (fun p hq => hn p (List.mem_reverse.1 hq)), sumV_reverse]
  have hz : sumB (if h.f2 = 0 then [] else [(⟨2, 0, h.f2⟩ : Bk)]) = h.f2 := by
    by_cases z : h.f2 = 0
    · rw [if_pos z, z]; rfl
    · rw [if_neg z]; simp [sumB]
  rw [hz]
  unfold fits totalRes sumR at c4
  simp only [List.map_cons, List.map_nil, List.sum_cons, List.sum_nil, Int.add_zero, Bool.and_eq_true, decide_eq_true_eq] at c4
  obtain ⟨⟨t1, t2⟩, -⟩ := c4
  by_cases k : h.f2 + (sumV (openR h).1 + sumV (openR h).2.1) ≤ 18446744073709551615
  · rw [if_pos k] at t2; omega
  · rw [if_neg k] at t1; cases t1
theorem told_wrap {h : Hi} (hw : wfH h) (hc : checkR h = 0) : IntKind.u64.wrap (sumB (toldW h)) = sumB (toldW h) := by
  obtain ⟨h0, h1⟩ := told_sum hw hc
  have h2 := hw.2.2.2.1.2
  have h_ : IntKind.u64.wrap (sumB (toldW h)) = sumB (toldW h) % 18446744073709551616 := rfl
  rw [h_]; omega
theorem findK_some : ∀ {l : List Bk} {k : Int} {b : Bk}, findK l k = some b → 0 < k → ∃ l1 l2, l = l1 ++ b :: l2 ∧ sumB l1 < k ∧ k ≤ sumB l1 + b.n
  | [], k, b, h, _ => by simp [findK] at h
  | x :: l, k, b, h, h0 => by
    simp only [findK] at h
    by_cases c : k ≤ x.n
    · rw [if_pos c] at h
      obtain rfl := Option.some.inj h
      exact ⟨[], l, rfl, by simp [sumB]; omega, by simp [sumB]; omega⟩
    · rw [if_neg c] at h
      obtain ⟨l1, l2, rfl, h1, h2⟩ := findK_some h (by omega)
      exact ⟨x :: l1, l2, rfl, by simp only [sumB]; omega, by simp only [sumB]; omega⟩
theorem findK_none : ∀ {l : List Bk} {k : Int}, (∀ b ∈ l, 0 ≤ b.n) → findK l k = none → 0 < k → sumB l < k
  | [], k, _, _, h0 => by simpa [sumB] using h0
  | x :: l, k, hp, h, h0 => by
    simp only [findK] at h
    by_cases c : k ≤ x.n
    · rw [if_pos c] at h; cases h
    · rw [if_neg c] at h
      have := findK_none (fun b hb => hp b (List.mem_cons_of_mem _ hb)) h (by omega)
      simp only [sumB]; omega
theorem findK_is {h : Hi} (hw : wfH h) {k : Int} (h0 : 0 < k) : (∃ b, findK (toldW h) k = some b) ↔ k ≤ sumB (toldW h) := by
  have hp : ∀ b ∈ toldW h, 0 ≤ b.n := fun b hb => (toldW_u64 hw b hb).1
  constructor
  · rintro ⟨b, hb⟩
    obtain ⟨l1, l2, e, h1, h2⟩ := findK_some hb h0
    rw [e] at hp ⊢
    have := sumB_nonneg (l := l2) (fun x hx => hp x (by simp [hx]))
    rw [sumB_app]; simp only [sumB]; omega
  · intro hk
    cases e : findK (toldW h) k with
    | some b => exact ⟨b, rfl⟩
    | none => have := findK_none hp e h0; omega
end Go.Proofs.Ytfbjjbbhnmoolaa.P
namespace Go.Proofs.Ytfbjjbbhnmoolaa.P
open Go.RowKit Go.Shelf Go.Proofs.YtfbjjbbhnmoolaaW.PrintWords Go.Proofs.YtfbjjbbhnmoolaaW.PrintLast Go.Proofs.YtfbjjbbhnmoolaaW.PrintMore
def wfI29 (h : Hi) : Prop := i64 h.f0 ∧ u64 h.f1 ∧ u64 h.f2 ∧ u64 h.f3 ∧ u64 h.f4 ∧ wfSps h.f5 ∧ wfSps h.f6 ∧ i64s h.f7 ∧ i64s h.f8
theorem wfI29_of {x : S26} (h : wf26 x) : wfI29 x := ⟨i64_of h.1, u64_of h.2.1, u64_of h.2.2.1, u64_of h.2.2.2.1, u64_of h.2.2.2.2.1, wfSps_of h.2.2.2.2.2.1, wfSps_of h.2.2.2.2.2.2.1, i64_all h.2.2.2.2.2.2.2.1, i64_all h.2.2.2.2.2.2.2.2⟩
theorem wfI29_wf {h : Hi} (x : wfI29 h) (h7 : h.f7.length ≤ 300) (h8 : h.f8.length ≤ 300) : wfH h := ⟨x.1, x.2.1, x.2.2.1, x.2.2.2.1, x.2.2.2.2.1, x.2.2.2.2.2.1, x.2.2.2.2.2.2.1, x.2.2.2.2.2.2.2.1, x.2.2.2.2.2.2.2.2, by omega, by omega⟩
theorem rank_Total.eq (h : Hi) (hw : wfH h) : rank_Total.f h.f0 h.f1 h.f2 h.f3 h.f4 h.f5 h.f6 h.f7 h.f8 = some (totalR h) := if_pos hw
theorem rank_At.eq (h : Hi) (hw : wfH h) (k : Int) (hk : u64 k) : rank_At.f h.f0 h.f1 h.f2 h.f3 h.f4 h.f5 h.f6 h.f7 h.f8 k = some ((atR h k).1.s, (atR h k).1.p, (atR h k).1.n, (atR h k).2) := if_pos ⟨hw, hk⟩
theorem told_len {h : Hi} (hw : wfH h) : (toldW h).length ≤ 10000 := by
  have hrow := openR_row hw
  have hseg : ∀ (s : Int) (l : List Pr), (segW s l).length ≤ l.length := fun s l => by unfold segW; rw [List.length_map]; exact List.length_filter_le _ _
  unfold toldW
  by_cases c : checkR h = 0
  · rw [if_pos c, List.length_append, List.length_append]
    have h1 := hseg 1 (openR h).2.1.reverse
    have h2 := hseg 0 (openR h).1
    have h3 := hrow.1.len
    have h4 := hrow.2.len
    rw [List.length_reverse] at h1
    by_cases z : h.f2 = 0
    · rw [if_pos z]; simp; omega
    · rw [if_neg z]; simp; omega
  · rw [if_neg c]; simp
end Go.Proofs.Ytfbjjbbhnmoolaa.P
namespace Go.Proofs.Ytfbjjbbhnmoolaa.P
open Go.RowKit Go.Shelf Go.Proofs.YtfbjjbbhnmoolaaW.PrintWords Go.Proofs.YtfbjjbbhnmoolaaW.PrintLast Go.Proofs.YtfbjjbbhnmoolaaW.PrintMore
theorem eqB3 (d : Nat) (w : World) (x0 y0 x1 y1 x2 y2 : Int) :
  (Op.equalIn (d + 2) 52 (.agg #[.int .i64 x0, .int .i64 x1, .int .u64 x2]) (.agg #[.int .i64 y0, .int .i64 y1, .int .u64 y2])).run Try.prog w = .ok (x0 == y0 && (x1 == y1 && (x2 == y2))) w := by
 refine eqA_of Try.underlying52 (by kernel_rfl) ?_
 refine eqf_cons (by rfl) (by go_simp; rfl) (by go_simp; rfl) (by go_simp) ?_
 refine eqf_cons (by rfl) (by go_simp; rfl) (by go_simp; rfl) (by go_simp) ?_
 exact eqf_last (by rfl) (by go_simp; rfl) (by go_simp; rfl) (by go_simp)
attribute [local go_sem high] eqB3
theorem blk_lt {W : World} {g : Nat} {cs : Array Value} {t : TypeId} (h : Blk W g cs t) : g < W.heap.size := (Array.getElem?_eq_some_iff.1 (show W.heap[g]? = _ from h)).1
theorem put3_ne {W : World} {g g' : Nat} {cs : Array Value} {t : TypeId} (h : Blk W g cs t) (hne : g ≠ g') (v0 v1 v2 : Value) : Blk (((W.setCell ⟨g', 0, none⟩ v0).setCell ⟨g', 1, none⟩ v1).setCell ⟨g', 2, none⟩ v2) g cs t := blk_put_ne (blk_put_ne (blk_put_ne h hne v0) hne v1) hne v2
theorem put3_all {w W : World} {gy g : Nat} {cy : Array Value} {ty tz : TypeId} {a0 a1 a2 : Value} (B : Below w.heap.size w W) (Y : Blk W gy cy ty) (Z : Blk W g #[a0, a1, a2] tz) (hg : w.heap.size ≤ g) (hne : gy ≠ g) (v0 v1 v2 : Value) :
    Below w.heap.size w (((W.setCell ⟨g, 0, none⟩ v0).setCell ⟨g, 1, none⟩ v1).setCell ⟨g, 2, none⟩ v2) ∧ Blk (((W.setCell ⟨g, 0, none⟩ v0).setCell ⟨g, 1, none⟩ v1).setCell ⟨g, 2, none⟩ v2) gy cy ty ∧ Blk (((W.setCell ⟨g, 0, none⟩ v0).setCell ⟨g, 1, none⟩ v1).setCell ⟨g, 2, none⟩ v2) g #[v0, v1, v2] tz :=
  ⟨((B.setCell hg _).setCell hg _).setCell hg _, put3_ne Y hne _ _ _, three Z _ _ _⟩
theorem max2_mx (k k' : IntKind) (x y : Int) : Builtin.max2 (.int k x) (.int k' y) = pure (.int k (mx x y)) := max2_int k k' x y
attribute [local go_sem] max2_mx min2_int max_two min_two max_three min_three max_four min_four
theorem rank_Rank.eq (t n d : Int) (ht : u64 t) (hn : u64 n) (hd : u64 d) : rank_Rank.f t n d = some (rankR t n d) := if_pos ⟨ht, hn, hd⟩
theorem rankR_le (t n d : Int) (ht : u64 t) (hn : u64 n) (hd : u64 d) (h0 : d ≠ 0) (hnd : n ≤ d) : 0 ≤ (rankR t n d).1 ∧ (rankR t n d).1 ≤ t := by
  unfold rankR
  rw [if_neg (by omega)]
  unfold u64 at *
  have h1 : t * n ≤ t * d := Int.mul_le_mul_of_nonneg_left hnd ht.1
  have h2 : 0 ≤ t * n := Int.mul_nonneg ht.1 hn.1
  refine ⟨Int.ediv_nonneg (by omega) (by omega), ?_⟩
  refine Int.le_of_lt_add_one (Int.ediv_lt_of_lt_mul (by omega) ?_)
  show t * n + d - 1 < (t + 1) * d
  rw [Int.add_mul]
  omega
theorem atR_ok' {h : Hi} (hw : wfH h) (hc : checkR h = 0) (k : Int) (h0 : 0 < k) (h1 : k ≤ sumB (toldW h)) : (atR h k).2 = 0 := by
  obtain ⟨b, hb⟩ := (findK_is hw h0).2 h1
  unfold atR
  rw [if_pos hc, if_pos h0, hb]
theorem quantile_f (h : Hi) (hw : wfH h) (n d : Int) (hn : u64 n) (hd : u64 d) : rank_Quantile.f h.f0 h.f1 h.f2 h.f3 h.f4 h.f5 h.f6 h.f7 h.f8 n d = some (
    if checkR h ≠ 0 then (0, 0, 0, checkR h) else if d = 0 ∨ d < n then (0, 0, 0, 11) else if sumB (toldW h) = 0 then (0, 0, 0, 14) else
      ((atR h (mx (rankR (sumB (toldW h)) n d).1 1)).1.s, (atR h (mx (rankR (sumB (toldW h)) n d).1 1)).1.p, (atR h (mx (rankR (sumB (toldW h)) n d).1 1)).1.n, (atR h (mx (rankR (sumB (toldW h)) n d).1 1)).2)) := by
  unfold rank_Quantile.f
  rw [rank_Total.eq h hw]
  simp only [Option.bind_some]
  by_cases hc : checkR h = 0
  rotate_left
  · have ht : totalR h = (0, checkR h) := by unfold totalR; rw [if_neg hc]
    rw [ht, if_neg hc, if_pos hc]
  have ht : totalR h = (sumB (toldW h), 0) := by unfold totalR; rw [if_pos hc, told_wrap hw hc]
  obtain ⟨s0, s1⟩ := told_sum hw hc
  have hcu := hw.2.2.2.1.2
  have hu : u64 (sumB (toldW h)) := ⟨s0, by omega⟩
  simp only [ht]
  rw [if_pos trivial, if_neg (by simpa using hc), rank_Rank.eq _ _ _ hu hn hd]
  simp only [Option.bind_some]
  by_cases c : d = 0 ∨ d < n
  · have : rankR (sumB (toldW h)) n d = (0, 11) := by unfold rankR; rw [if_pos c]
    rw [this, if_neg (by decide), if_pos c]
  have h2 : (rankR (sumB (toldW h)) n d).2 = 0 := by unfold rankR; rw [if_neg c]
  rw [h2, if_pos rfl, if_neg c]
  by_cases z : sumB (toldW h) = 0
  · rw [if_pos z, if_pos z]
  rw [if_neg z, if_neg z]
  have hr := rankR_le (sumB (toldW h)) n d hu hn hd (by omega) (by omega)
  have hmx : u64 (mx (rankR (sumB (toldW h)) n d).1 1) := by unfold mx u64; split <;> omega
  rw [rank_At.eq h hw _ hmx]
  rfl
theorem small29_c (h : Hi) : ∃ b : Bool, (b = true → h.f5.length ≤ 400 ∧ h.f6.length ≤ 400 ∧ h.f7.length ≤ 300 ∧ h.f8.length ≤ 300) ∧ ∀ (w : World) (v : Value), HI w v h → Calls Try.prog 21 #[v] w fun e w' => e = .returned (.bool b) ∧ Below w.heap.size w w' := by
  obtain ⟨b, hb, eb⟩ := small29_eq h
  refine ⟨b, hb, fun w v hv => ?_⟩
  obtain ⟨A5, c5, A6, c6, A7, c7, A8, c8, rfl, ⟨_, _, e5, h51, h52⟩, ⟨_, _, e6, h61, h62⟩, ⟨_, _, e7, h71, h72⟩, ⟨_, _, e8, h81, h82⟩⟩ := hv.open_
  cases e5; cases e6; cases e7; cases e8
  refine (tidepolelaw29_small.calls 402 h.f0 h.f1 h.f2 h.f3 h.f4 A5 c5 h.f5 A6 c6 h.f6 A7 c7 h.f7 A8 c8 h.f8 b w h52 h51 h62 h61 h72 h71 h82 h81 (eb _ (Nat.le_refl _))).mono ?_
  rintro e w1 ⟨rfl, hb⟩
  exact ⟨rfl, by first | exact hb | exact hb.below⟩
theorem ref29_c (h : Hi) (h5 : h.f5.length ≤ 400) (h6 : h.f6.length ≤ 400) (w : World) (v : Value) (hv : HI w v h) : Calls Try.prog 24 #[v] w fun e w' => ∃ v', e = .returned v' ∧ HR w' v' h ∧ Below w.heap.size w w' := by
  obtain ⟨A5, c5, A6, c6, A7, c7, A8, c8, rfl, ⟨_, _, e5, h51, h52⟩, ⟨_, _, e6, h61, h62⟩, ⟨_, _, e7, h71, h72⟩, ⟨_, _, e8, h81, h82⟩⟩ := hv.open_
  cases e5; cases e6; cases e7; cases e8
  refine (tidepolelaw29_ref.calls 402 h.f0 h.f1 h.f2 h.f3 h.f4 A5 c5 h.f5 A6 c6 h.f6 _ A7 c7 h.f7 _ A8 c8 h.f8 h.f0 h.f1 h.f2 h.f3 h.f4 (h.f5.map toR) (h.f6.map toR) h.f7 h.f8 w h52 h51 h62 h61 (SI.V h71 h72) (SI.V h81 h82) (ref29_eq h h5 h6 402 (Nat.le_refl _))).mono ?_
  rintro e w1 ⟨v5, v6, v7, v8, rfl, i5, i6, i7, i8, hb⟩
  exact ⟨_, rfl, ⟨v5, v6, v7, v8, rfl, .of_R i5, .of_R i6, .of_V i7, .of_V i8⟩, hb⟩
theorem order29_c (h : Hi) (hw : wfH h) (hc : checkR h = 0) (w : World) (v : Value) (hv : HR w v h) : Calls Try.prog 26 #[v] w fun e w' => ∃ v', e = .returned v' ∧ SI k127 w' v' ((toldW h).map toRb) ∧ Below w.heap.size w w' := by
  obtain ⟨v5, v6, v7, v8, rfl, ⟨A5, c5, rfl, h51, h52⟩, ⟨A6, c6, rfl, h61, h62⟩, ⟨A7, c7, rfl, h71, h72⟩, ⟨A8, c8, rfl, h81, h82⟩⟩ := hv
  refine (tidepoleref29_Order.calls 5140000 h.f0 h.f1 h.f2 h.f3 h.f4 A5 c5 _ A6 c6 _ A7 c7 _ A8 c8 _ _ w h52 h51 h62 h61 h72 h71 h82 h81 (order29_eq h hw hc _ (Nat.le_refl _))).mono ?_
  rintro e w1 ⟨v0, rfl, h0, hb⟩
  exact ⟨v0, rfl, .of_R h0, hb⟩
theorem total29_c (l : List Bk) (hl : l.length ≤ 10000) (w : World) (v : Value) (hv : SI k127 w v (l.map toRb)) : Calls Try.prog 25 #[v] w fun e w' => e = .returned (.int .u64 (IntKind.u64.wrap (sumB l))) ∧ Below w.heap.size w w' := by
  obtain ⟨A, c, rfl, hc, hr⟩ := hv
  refine (tidepoleref29_Total.calls 10001 A c (l.map toRb) _ w hr hc (total29_eq l (by omega) 10001 (by omega))).mono ?_
  rintro e w1 ⟨rfl, hb⟩
  exact ⟨rfl, by first | exact hb | exact hb.below⟩
theorem refRank_c29 (t n d : Int) (ht : u64 t) (hn : u64 n) (hd : u64 d) (h0 : d ≠ 0) (hnd : n ≤ d) (w : World) : Calls Try.prog 28 #[.int .u64 t, .int .u64 n, .int .u64 d] w fun e w' => e = .returned (.int .u64 (rankR t n d).1) ∧ Below w.heap.size w w' :=
  (tidepoleref29_Rank.calls 130 t n d _ w (refRank_eq t n d ht hn hd h0 hnd 130 (Nat.le_refl _))).mono fun e w1 h => ⟨h.1, h.2.below⟩
def quantR (h : Hi) (n d : Int) : Bk × Int := if checkR h ≠ 0 then (⟨0, 0, 0⟩, checkR h) else if d = 0 ∨ d < n then (⟨0, 0, 0⟩, 11) else if sumB (toldW h) = 0 then (⟨0, 0, 0⟩, 14) else atR h (mx (rankR (sumB (toldW h)) n d).1 1)
theorem quant_c (h : Hi) (hw : wfH h) (n d : Int) (hn : u64 n) (hd : u64 d) (w : World) (v : Value) (hv : HI w v h) : Calls Try.prog 23 #[v, .int .u64 n, .int .u64 d] w fun e w' => e = .returned (.tuple #[.agg (encB1 (quantR h n d).1), .int .i64 (quantR h n d).2]) ∧ Below w.heap.size w w' := by
  obtain ⟨A5, c5, A6, c6, A7, c7, A8, c8, rfl, ⟨_, _, e5, h51, h52⟩, ⟨_, _, e6, h61, h62⟩, ⟨_, _, e7, h71, h72⟩, ⟨_, _, e8, h81, h82⟩⟩ := hv.open_
  cases e5; cases e6; cases e7; cases e8
  have hq := quantile_f h hw n d hn hd
  have e : (if checkR h ≠ 0 then (0, 0, 0, checkR h) else if d = 0 ∨ d < n then (0, 0, 0, 11) else if sumB (toldW h) = 0 then (0, 0, 0, 14) else
      ((atR h (mx (rankR (sumB (toldW h)) n d).1 1)).1.s, (atR h (mx (rankR (sumB (toldW h)) n d).1 1)).1.p, (atR h (mx (rankR (sumB (toldW h)) n d).1 1)).1.n, (atR h (mx (rankR (sumB (toldW h)) n d).1 1)).2) : Int × Int × Int × Int) = ((quantR h n d).1.s, (quantR h n d).1.p, (quantR h n d).1.n, (quantR h n d).2) := by
    unfold quantR; repeat' split
    all_goals rfl
  rw [e] at hq
  exact rank_Quantile.calls h.f0 h.f1 h.f2 h.f3 h.f4 A5 c5 _ A6 c6 _ A7 c7 _ A8 c8 _ n d _ _ _ _ w h52 h51 h62 h61 h72 h71 h82 h81 hq
set_option maxHeartbeats 16000000 in
set_option maxRecDepth 100000 in
theorem rankQuantiles_c (h : Hi) (hw0 : wfI29 h) (n d : Int) (hn : u64 n) (hd : u64 d) (w : World) (v : Value) (hv : HI w v h) : Calls Try.prog 5 #[v, .int .u64 n, .int .u64 d] w fun e w' => e = .returned (.bool true) ∧ Below w.heap.size w w' := by
  obtain ⟨b, hb, cs⟩ := small29_c h
  have CS := Aside0.mk cs
  clear cs
  cases b with
  | false =>
    clear hb
    have hud := Try.underlying26
    have hub := Try.underlying52
    obtain ⟨A5, c5, A6, c6, A7, c7, A8, c8, e, -⟩ := hv.open_
    subst e
    have hal0 := below_alloc (Below.refl w.heap.size w) (.cells #[.int .i64 h.f0, .int .u64 h.f1, .int .u64 h.f2, .int .u64 h.f3, .int .u64 h.f4, .slice A5 h.f5.length c5, .slice A6 h.f6.length c6, .slice A7 h.f7.length c7, .slice A8 h.f8.length c8] 26)
    have HV := Aside0.mk (hv.below hal0)
    have X := Aside0.mk (Blk.new w #[.int .i64 h.f0, .int .u64 h.f1, .int .u64 h.f2, .int .u64 h.f3, .int .u64 h.f4, .slice A5 h.f5.length c5, .slice A6 h.f6.length c6, .slice A7 h.f7.length c7, .slice A8 h.f8.length c8] 26)
    have hx := fun i => X.out.cell i
    have B := Aside0.mk hal0
    clear hv hal0
    go_enter Try.func5, Try.ntmps5
    go_wp2_with (first | (go_at_call 21; (with_reducible refine (CS.out _ _ HV.out).mono ?_); rintro e w1 ⟨rfl, hb⟩; replace B := Aside0.mk (below_then B.out B.out.size hb); replace HV := Aside0.mk (HV.out.below hb); replace X := Aside0.mk (X.out.below hb); replace hx := fun i => X.out.cell i; clear hb) | (go_at_call 22; (with_reducible refine (awake29_c _).mono ?_); rintro e w9 ⟨rfl, hb⟩; replace B := Aside0.mk (below_then B.out B.out.size hb); replace HV := Aside0.mk (HV.out.below hb); replace X := Aside0.mk (X.out.below hb); replace hx := fun i => X.out.cell i; clear hb))
    go_ret
    exact ⟨rfl, B.out⟩
  | true =>
    obtain ⟨n5, n6, n7, n8⟩ := hb rfl
    have hw := wfI29_wf hw0 n7 n8
    have CR := Aside0.mk (ref29_c h n5 n6)
    have cq := refCheck_c h hw
    have qq := quant_c h hw n d hn hd
    have hat := at_c h hw
    clear hb n5 n6 n7 n8
    unfold quantR at qq
    by_cases hc : checkR h = 0
    rotate_left
    · rw [if_pos hc] at qq
      generalize checkR h = ec at *
      have QQ := Aside0.mk qq
      have CQ := Aside0.mk cq
      have d1 : (ec != 0) = true := bne_iff_ne.2 hc
      have d2 : (ec == ec) = true := beq_self_eq_true _
      clear hc qq cq hat hw hw0
      simp only [encB1] at QQ
      have hud := Try.underlying26
      have hub := Try.underlying52
      obtain ⟨A5, c5, A6, c6, A7, c7, A8, c8, e, -⟩ := hv.open_
      subst e
      have hal0 := below_alloc (Below.refl w.heap.size w) (.cells #[.int .i64 h.f0, .int .u64 h.f1, .int .u64 h.f2, .int .u64 h.f3, .int .u64 h.f4, .slice A5 h.f5.length c5, .slice A6 h.f6.length c6, .slice A7 h.f7.length c7, .slice A8 h.f8.length c8] 26)
      have HV := Aside0.mk (hv.below hal0)
      have X := Aside0.mk (Blk.new w #[.int .i64 h.f0, .int .u64 h.f1, .int .u64 h.f2, .int .u64 h.f3, .int .u64 h.f4, .slice A5 h.f5.length c5, .slice A6 h.f6.length c6, .slice A7 h.f7.length c7, .slice A8 h.f8.length c8] 26)
      have hx := fun i => X.out.cell i
      have B := Aside0.mk hal0
      clear hv hal0
      go_enter Try.func5, Try.ntmps5
      go_wp2_with (first | (go_at_call 21; (with_reducible refine (CS.out _ _ HV.out).mono ?_); rintro e w1 ⟨rfl, hb⟩; replace B := Aside0.mk (below_then B.out B.out.size hb); replace HV := Aside0.mk (HV.out.below hb); replace X := Aside0.mk (X.out.below hb); replace hx := fun i => X.out.cell i; clear hb) | (go_at_call 23; (with_reducible refine (QQ.out _ _ HV.out).mono ?_); rintro e w2 ⟨rfl, hb⟩; replace B := Aside0.mk (below_then B.out B.out.size hb); replace HV := Aside0.mk (HV.out.below hb); replace X := Aside0.mk (X.out.below hb); replace hx := fun i => X.out.cell i; have hxa := fun i => (X.out.alloc (.cells #[.int .i64 0, .int .i64 0, .int .u64 0] 52)).cell i; clear hb))
      (try clear hxa)
      have hal := below_alloc (Below.refl w2.heap.size w2) (.cells #[.int .i64 0, .int .i64 0, .int .u64 0] 52)
      replace B := Aside0.mk (below_then B.out B.out.size hal)
      replace HV := Aside0.mk (HV.out.below hal)
      replace X := Aside0.mk (X.out.alloc (.cells #[.int .i64 0, .int .i64 0, .int .u64 0] 52)); replace hx := fun i => X.out.cell i
      have Y := Aside0.mk (Blk.new w2 #[.int .i64 0, .int .i64 0, .int .u64 0] 52); have hy := fun i => Y.out.cell i; clear hal
      go_wp2_with (first | (go_at_call 24; (with_reducible refine (CR.out _ _ HV.out).mono ?_); rintro e w3 ⟨rv, rfl, hr, hb⟩; replace B := Aside0.mk (below_then B.out B.out.size hb); replace HV := Aside0.mk (HV.out.below hb); replace X := Aside0.mk (X.out.below hb); replace hx := fun i => X.out.cell i; replace Y := Aside0.mk (Y.out.below hb); replace hy := fun i => Y.out.cell i; have RV := Aside0.mk hr; clear hr; clear hb) | (go_at_call 16; (with_reducible refine (CQ.out _ _ RV.out).mono ?_); rintro e w4 ⟨rfl, hb⟩; replace B := Aside0.mk (below_then B.out B.out.size hb); replace HV := Aside0.mk (HV.out.below hb); replace X := Aside0.mk (X.out.below hb); replace hx := fun i => X.out.cell i; replace Y := Aside0.mk (Y.out.below hb); replace hy := fun i => Y.out.cell i; clear hb) | (go_at_call 22; (with_reducible refine (awake29_c _).mono ?_); rintro e w9 ⟨rfl, hb⟩; replace B := Aside0.mk (below_then B.out B.out.size hb); replace HV := Aside0.mk (HV.out.below hb); replace X := Aside0.mk (X.out.below hb); replace hx := fun i => X.out.cell i; replace Y := Aside0.mk (Y.out.below hb); replace hy := fun i => Y.out.cell i; clear hb))
      go_ret
      exact ⟨rfl, B.out⟩
    rw [if_neg (by simpa using hc)] at qq
    rw [hc] at cq
    have CQ := Aside0.mk cq
    clear cq
    by_cases c : d = 0 ∨ d < n
    · rw [if_pos c] at qq
      have QQ := Aside0.mk qq
      simp only [encB1] at QQ
      by_cases c0 : d = 0
      · have d1 : (d == 0) = true := beq_iff_eq.2 c0
        clear c c0 qq hat hw hw0 hc
        have hud := Try.underlying26
        have hub := Try.underlying52
        obtain ⟨A5, c5, A6, c6, A7, c7, A8, c8, e, -⟩ := hv.open_
        subst e
        have hal0 := below_alloc (Below.refl w.heap.size w) (.cells #[.int .i64 h.f0, .int .u64 h.f1, .int .u64 h.f2, .int .u64 h.f3, .int .u64 h.f4, .slice A5 h.f5.length c5, .slice A6 h.f6.length c6, .slice A7 h.f7.length c7, .slice A8 h.f8.length c8] 26)
        have HV := Aside0.mk (hv.below hal0)
        have X := Aside0.mk (Blk.new w #[.int .i64 h.f0, .int .u64 h.f1, .int .u64 h.f2, .int .u64 h.f3, .int .u64 h.f4, .slice A5 h.f5.length c5, .slice A6 h.f6.length c6, .slice A7 h.f7.length c7, .slice A8 h.f8.length c8] 26)
        have hx := fun i => X.out.cell i
        have B := Aside0.mk hal0
        clear hv hal0
        go_enter Try.func5, Try.ntmps5
        go_wp2_with (first | (go_at_call 21; (with_reducible refine (CS.out _ _ HV.out).mono ?_); rintro e w1 ⟨rfl, hb⟩; replace B := Aside0.mk (below_then B.out B.out.size hb); replace HV := Aside0.mk (HV.out.below hb); replace X := Aside0.mk (X.out.below hb); replace hx := fun i => X.out.cell i; clear hb) | (go_at_call 23; (with_reducible refine (QQ.out _ _ HV.out).mono ?_); rintro e w2 ⟨rfl, hb⟩; replace B := Aside0.mk (below_then B.out B.out.size hb); replace HV := Aside0.mk (HV.out.below hb); replace X := Aside0.mk (X.out.below hb); replace hx := fun i => X.out.cell i; have hxa := fun i => (X.out.alloc (.cells #[.int .i64 0, .int .i64 0, .int .u64 0] 52)).cell i; clear hb))
        (try clear hxa)
        have hal := below_alloc (Below.refl w2.heap.size w2) (.cells #[.int .i64 0, .int .i64 0, .int .u64 0] 52)
        replace B := Aside0.mk (below_then B.out B.out.size hal)
        replace HV := Aside0.mk (HV.out.below hal)
        replace X := Aside0.mk (X.out.alloc (.cells #[.int .i64 0, .int .i64 0, .int .u64 0] 52)); replace hx := fun i => X.out.cell i
        have Y := Aside0.mk (Blk.new w2 #[.int .i64 0, .int .i64 0, .int .u64 0] 52); have hy := fun i => Y.out.cell i; clear hal
        go_wp2_with (first | (go_at_call 24; (with_reducible refine (CR.out _ _ HV.out).mono ?_); rintro e w3 ⟨rv, rfl, hr, hb⟩; replace B := Aside0.mk (below_then B.out B.out.size hb); replace HV := Aside0.mk (HV.out.below hb); replace X := Aside0.mk (X.out.below hb); replace hx := fun i => X.out.cell i; replace Y := Aside0.mk (Y.out.below hb); replace hy := fun i => Y.out.cell i; have RV := Aside0.mk hr; clear hr; clear hb) | (go_at_call 16; (with_reducible refine (CQ.out _ _ RV.out).mono ?_); rintro e w4 ⟨rfl, hb⟩; replace B := Aside0.mk (below_then B.out B.out.size hb); replace HV := Aside0.mk (HV.out.below hb); replace X := Aside0.mk (X.out.below hb); replace hx := fun i => X.out.cell i; replace Y := Aside0.mk (Y.out.below hb); replace hy := fun i => Y.out.cell i; clear hb) | (go_at_call 22; (with_reducible refine (awake29_c _).mono ?_); rintro e w9 ⟨rfl, hb⟩; replace B := Aside0.mk (below_then B.out B.out.size hb); replace HV := Aside0.mk (HV.out.below hb); replace X := Aside0.mk (X.out.below hb); replace hx := fun i => X.out.cell i; replace Y := Aside0.mk (Y.out.below hb); replace hy := fun i => Y.out.cell i; clear hb))
        go_ret
        exact ⟨rfl, B.out⟩
      · have d1 : (d == 0) = false := beq_eq_false_iff_ne.2 c0
        have d2 : decide (d < n) = true := decide_eq_true (by omega)
        clear c c0 qq hat hw hw0 hc
        have hud := Try.underlying26
        have hub := Try.underlying52
        obtain ⟨A5, c5, A6, c6, A7, c7, A8, c8, e, -⟩ := hv.open_
        subst e
        have hal0 := below_alloc (Below.refl w.heap.size w) (.cells #[.int .i64 h.f0, .int .u64 h.f1, .int .u64 h.f2, .int .u64 h.f3, .int .u64 h.f4, .slice A5 h.f5.length c5, .slice A6 h.f6.length c6, .slice A7 h.f7.length c7, .slice A8 h.f8.length c8] 26)
        have HV := Aside0.mk (hv.below hal0)
        have X := Aside0.mk (Blk.new w #[.int .i64 h.f0, .int .u64 h.f1, .int .u64 h.f2, .int .u64 h.f3, .int .u64 h.f4, .slice A5 h.f5.length c5, .slice A6 h.f6.length c6, .slice A7 h.f7.length c7, .slice A8 h.f8.length c8] 26)
        have hx := fun i => X.out.cell i
        have B := Aside0.mk hal0
        clear hv hal0
        go_enter Try.func5, Try.ntmps5
        go_wp2_with (first | (go_at_call 21; (with_reducible refine (CS.out _ _ HV.out).mono ?_); rintro e w1 ⟨rfl, hb⟩; replace B := Aside0.mk (below_then B.out B.out.size hb); replace HV := Aside0.mk (HV.out.below hb); replace X := Aside0.mk (X.out.below hb); replace hx := fun i => X.out.cell i; clear hb) | (go_at_call 23; (with_reducible refine (QQ.out _ _ HV.out).mono ?_); rintro e w2 ⟨rfl, hb⟩; replace B := Aside0.mk (below_then B.out B.out.size hb); replace HV := Aside0.mk (HV.out.below hb); replace X := Aside0.mk (X.out.below hb); replace hx := fun i => X.out.cell i; have hxa := fun i => (X.out.alloc (.cells #[.int .i64 0, .int .i64 0, .int .u64 0] 52)).cell i; clear hb))
        (try clear hxa)
        have hal := below_alloc (Below.refl w2.heap.size w2) (.cells #[.int .i64 0, .int .i64 0, .int .u64 0] 52)
        replace B := Aside0.mk (below_then B.out B.out.size hal)
        replace HV := Aside0.mk (HV.out.below hal)
        replace X := Aside0.mk (X.out.alloc (.cells #[.int .i64 0, .int .i64 0, .int .u64 0] 52)); replace hx := fun i => X.out.cell i
        have Y := Aside0.mk (Blk.new w2 #[.int .i64 0, .int .i64 0, .int .u64 0] 52); have hy := fun i => Y.out.cell i; clear hal
        go_wp2_with (first | (go_at_call 24; (with_reducible refine (CR.out _ _ HV.out).mono ?_); rintro e w3 ⟨rv, rfl, hr, hb⟩; replace B := Aside0.mk (below_then B.out B.out.size hb); replace HV := Aside0.mk (HV.out.below hb); replace X := Aside0.mk (X.out.below hb); replace hx := fun i => X.out.cell i; replace Y := Aside0.mk (Y.out.below hb); replace hy := fun i => Y.out.cell i; have RV := Aside0.mk hr; clear hr; clear hb) | (go_at_call 16; (with_reducible refine (CQ.out _ _ RV.out).mono ?_); rintro e w4 ⟨rfl, hb⟩; replace B := Aside0.mk (below_then B.out B.out.size hb); replace HV := Aside0.mk (HV.out.below hb); replace X := Aside0.mk (X.out.below hb); replace hx := fun i => X.out.cell i; replace Y := Aside0.mk (Y.out.below hb); replace hy := fun i => Y.out.cell i; clear hb) | (go_at_call 22; (with_reducible refine (awake29_c _).mono ?_); rintro e w9 ⟨rfl, hb⟩; replace B := Aside0.mk (below_then B.out B.out.size hb); replace HV := Aside0.mk (HV.out.below hb); replace X := Aside0.mk (X.out.below hb); replace hx := fun i => X.out.cell i; replace Y := Aside0.mk (Y.out.below hb); replace hy := fun i => Y.out.cell i; clear hb))
        go_ret
        exact ⟨rfl, B.out⟩
    rw [if_neg c] at qq
    have d1 : (d == 0) = false := beq_eq_false_iff_ne.2 (by omega)
    have d2 : decide (d < n) = false := decide_eq_false (by omega)
    have CO := Aside0.mk (order29_c h hw hc)
    have ct := total29_c (toldW h) (told_len hw)
    rw [told_wrap hw hc] at ct
    have CT := Aside0.mk ct
    obtain ⟨s0, s1⟩ := told_sum hw hc
    have hcu := hw.2.2.2.1.2
    have hu : u64 (sumB (toldW h)) := ⟨s0, by omega⟩
    by_cases z : sumB (toldW h) = 0
    · rw [if_pos z] at qq
      have QQ := Aside0.mk qq
      simp only [encB1] at QQ
      rw [z] at CT
      clear c z qq hat hw hw0 hc ct s0 s1 hcu hu
      have hud := Try.underlying26
      have hub := Try.underlying52
      obtain ⟨A5, c5, A6, c6, A7, c7, A8, c8, e, -⟩ := hv.open_
      subst e
      have hal0 := below_alloc (Below.refl w.heap.size w) (.cells #[.int .i64 h.f0, .int .u64 h.f1, .int .u64 h.f2, .int .u64 h.f3, .int .u64 h.f4, .slice A5 h.f5.length c5, .slice A6 h.f6.length c6, .slice A7 h.f7.length c7, .slice A8 h.f8.length c8] 26)
      have HV := Aside0.mk (hv.below hal0)
      have X := Aside0.mk (Blk.new w #[.int .i64 h.f0, .int .u64 h.f1, .int .u64 h.f2, .int .u64 h.f3, .int .u64 h.f4, .slice A5 h.f5.length c5, .slice A6 h.f6.length c6, .slice A7 h.f7.length c7, .slice A8 h.f8.length c8] 26)
      have hx := fun i => X.out.cell i
      have B := Aside0.mk hal0
      clear hv hal0
      go_enter Try.func5, Try.ntmps5
      go_wp2_with (first | (go_at_call 21; (with_reducible refine (CS.out _ _ HV.out).mono ?_); rintro e w1 ⟨rfl, hb⟩; replace B := Aside0.mk (below_then B.out B.out.size hb); replace HV := Aside0.mk (HV.out.below hb); replace X := Aside0.mk (X.out.below hb); replace hx := fun i => X.out.cell i; clear hb) | (go_at_call 23; (with_reducible refine (QQ.out _ _ HV.out).mono ?_); rintro e w2 ⟨rfl, hb⟩; replace B := Aside0.mk (below_then B.out B.out.size hb); replace HV := Aside0.mk (HV.out.below hb); replace X := Aside0.mk (X.out.below hb); replace hx := fun i => X.out.cell i; have hxa := fun i => (X.out.alloc (.cells #[.int .i64 0, .int .i64 0, .int .u64 0] 52)).cell i; clear hb))
      (try clear hxa)
      have hal := below_alloc (Below.refl w2.heap.size w2) (.cells #[.int .i64 0, .int .i64 0, .int .u64 0] 52)
      replace B := Aside0.mk (below_then B.out B.out.size hal)
      replace HV := Aside0.mk (HV.out.below hal)
      replace X := Aside0.mk (X.out.alloc (.cells #[.int .i64 0, .int .i64 0, .int .u64 0] 52)); replace hx := fun i => X.out.cell i
      have Y := Aside0.mk (Blk.new w2 #[.int .i64 0, .int .i64 0, .int .u64 0] 52); have hy := fun i => Y.out.cell i; clear hal
      go_wp2_with (first | (go_at_call 24; (with_reducible refine (CR.out _ _ HV.out).mono ?_); rintro e w3 ⟨rv, rfl, hr, hb⟩; replace B := Aside0.mk (below_then B.out B.out.size hb); replace HV := Aside0.mk (HV.out.below hb); replace X := Aside0.mk (X.out.below hb); replace hx := fun i => X.out.cell i; replace Y := Aside0.mk (Y.out.below hb); replace hy := fun i => Y.out.cell i; have RV := Aside0.mk hr; clear hr; clear hb) | (go_at_call 16; (with_reducible refine (CQ.out _ _ RV.out).mono ?_); rintro e w4 ⟨rfl, hb⟩; replace B := Aside0.mk (below_then B.out B.out.size hb); replace HV := Aside0.mk (HV.out.below hb); replace X := Aside0.mk (X.out.below hb); replace hx := fun i => X.out.cell i; replace Y := Aside0.mk (Y.out.below hb); replace hy := fun i => Y.out.cell i; clear hb) | (go_at_call 26; (with_reducible refine (CO.out _ _ RV.out).mono ?_); rintro e w6 ⟨ov, rfl, hr, hb⟩; replace B := Aside0.mk (below_then B.out B.out.size hb); replace HV := Aside0.mk (HV.out.below hb); replace X := Aside0.mk (X.out.below hb); replace hx := fun i => X.out.cell i; replace Y := Aside0.mk (Y.out.below hb); replace hy := fun i => Y.out.cell i; have OV := Aside0.mk hr; clear hr; clear hb) | (go_at_call 25; (with_reducible refine (CT.out _ _ OV.out).mono ?_); rintro e w7 ⟨rfl, hb⟩; replace B := Aside0.mk (below_then B.out B.out.size hb); replace HV := Aside0.mk (HV.out.below hb); replace X := Aside0.mk (X.out.below hb); replace hx := fun i => X.out.cell i; replace Y := Aside0.mk (Y.out.below hb); replace hy := fun i => Y.out.cell i; clear hb) | (go_at_call 22; (with_reducible refine (awake29_c _).mono ?_); rintro e w9 ⟨rfl, hb⟩; replace B := Aside0.mk (below_then B.out B.out.size hb); replace HV := Aside0.mk (HV.out.below hb); replace X := Aside0.mk (X.out.below hb); replace hx := fun i => X.out.cell i; replace Y := Aside0.mk (Y.out.below hb); replace hy := fun i => Y.out.cell i; clear hb))
      go_ret
      exact ⟨rfl, B.out⟩
    rw [if_neg z] at qq
    have RR := Aside0.mk (refRank_c29 (sumB (toldW h)) n d hu hn hd (by omega) (by omega))
    have hr := rankR_le (sumB (toldW h)) n d hu hn hd (by omega) (by omega)
    have hmx : u64 (mx (rankR (sumB (toldW h)) n d).1 1) := by unfold mx u64; split <;> omega
    have hok := atR_ok' hw hc (mx (rankR (sumB (toldW h)) n d).1 1) (by unfold mx; split <;> omega) (by unfold mx; split <;> omega)
    have aa := hat (mx (rankR (sumB (toldW h)) n d).1 1) hmx
    rw [hok] at aa qq
    have d3 : ((sumB (toldW h)) == 0) = false := beq_eq_false_iff_ne.2 z
    generalize (atR h (mx (rankR (sumB (toldW h)) n d).1 1)).1 = bk at *
    obtain ⟨q1, q2, q3⟩ := bk
    generalize sumB (toldW h) = tt at *
    generalize hrk : (rankR tt n d).1 = rk at *
    have AA := Aside0.mk aa
    have QQ := Aside0.mk qq
    simp only [encB1] at AA QQ
    clear c z qq hat hw hw0 hc ct s0 s1 hcu hu hr hmx hok aa hrk
    have hud := Try.underlying26
    have hub := Try.underlying52
    obtain ⟨A5, c5, A6, c6, A7, c7, A8, c8, e, -⟩ := hv.open_
    subst e
    have hal0 := below_alloc (Below.refl w.heap.size w) (.cells #[.int .i64 h.f0, .int .u64 h.f1, .int .u64 h.f2, .int .u64 h.f3, .int .u64 h.f4, .slice A5 h.f5.length c5, .slice A6 h.f6.length c6, .slice A7 h.f7.length c7, .slice A8 h.f8.length c8] 26)
    have HV := Aside0.mk (hv.below hal0)
    have X := Aside0.mk (Blk.new w #[.int .i64 h.f0, .int .u64 h.f1, .int .u64 h.f2, .int .u64 h.f3, .int .u64 h.f4, .slice A5 h.f5.length c5, .slice A6 h.f6.length c6, .slice A7 h.f7.length c7, .slice A8 h.f8.length c8] 26)
    have hx := fun i => X.out.cell i
    have B := Aside0.mk hal0
    clear hv hal0
    go_enter Try.func5, Try.ntmps5
    go_wp2_with (first | (go_at_call 21; (with_reducible refine (CS.out _ _ HV.out).mono ?_); rintro e w1 ⟨rfl, hb⟩; replace B := Aside0.mk (below_then B.out B.out.size hb); replace HV := Aside0.mk (HV.out.below hb); replace X := Aside0.mk (X.out.below hb); replace hx := fun i => X.out.cell i; clear hb) | (go_at_call 23; (with_reducible refine (QQ.out _ _ HV.out).mono ?_); rintro e w2 ⟨rfl, hb⟩; replace B := Aside0.mk (below_then B.out B.out.size hb); replace HV := Aside0.mk (HV.out.below hb); replace X := Aside0.mk (X.out.below hb); replace hx := fun i => X.out.cell i; have hxa := fun i => (X.out.alloc (.cells #[.int .i64 q1, .int .i64 q2, .int .u64 q3] 52)).cell i; clear hb))
    (try clear hxa)
    have hal := below_alloc (Below.refl w2.heap.size w2) (.cells #[.int .i64 q1, .int .i64 q2, .int .u64 q3] 52)
    replace B := Aside0.mk (below_then B.out B.out.size hal)
    replace HV := Aside0.mk (HV.out.below hal)
    replace X := Aside0.mk (X.out.alloc (.cells #[.int .i64 q1, .int .i64 q2, .int .u64 q3] 52)); replace hx := fun i => X.out.cell i
    have Y := Aside0.mk (Blk.new w2 #[.int .i64 q1, .int .i64 q2, .int .u64 q3] 52); have hy := fun i => Y.out.cell i; clear hal
    go_wp2_with (first | (go_at_call 24; (with_reducible refine (CR.out _ _ HV.out).mono ?_); rintro e w3 ⟨rv, rfl, hr, hb⟩; replace B := Aside0.mk (below_then B.out B.out.size hb); replace HV := Aside0.mk (HV.out.below hb); replace X := Aside0.mk (X.out.below hb); replace hx := fun i => X.out.cell i; replace Y := Aside0.mk (Y.out.below hb); replace hy := fun i => Y.out.cell i; have RV := Aside0.mk hr; clear hr; clear hb) | (go_at_call 16; (with_reducible refine (CQ.out _ _ RV.out).mono ?_); rintro e w4 ⟨rfl, hb⟩; replace B := Aside0.mk (below_then B.out B.out.size hb); replace HV := Aside0.mk (HV.out.below hb); replace X := Aside0.mk (X.out.below hb); replace hx := fun i => X.out.cell i; replace Y := Aside0.mk (Y.out.below hb); replace hy := fun i => Y.out.cell i; clear hb) | (go_at_call 26; (with_reducible refine (CO.out _ _ RV.out).mono ?_); rintro e w6 ⟨ov, rfl, hr, hb⟩; replace B := Aside0.mk (below_then B.out B.out.size hb); replace HV := Aside0.mk (HV.out.below hb); replace X := Aside0.mk (X.out.below hb); replace hx := fun i => X.out.cell i; replace Y := Aside0.mk (Y.out.below hb); replace hy := fun i => Y.out.cell i; have OV := Aside0.mk hr; clear hr; clear hb) | (go_at_call 25; (with_reducible refine (CT.out _ _ OV.out).mono ?_); rintro e w7 ⟨rfl, hb⟩; replace B := Aside0.mk (below_then B.out B.out.size hb); replace HV := Aside0.mk (HV.out.below hb); replace X := Aside0.mk (X.out.below hb); replace hx := fun i => X.out.cell i; replace Y := Aside0.mk (Y.out.below hb); replace hy := fun i => Y.out.cell i; clear hb))
    replace HV := Aside0.mk (HV.out.below (below_drew (Below.refl _ _)))
    replace X := Aside0.mk (X.out.below (below_drew (Below.refl _ _)))
    replace Y := Aside0.mk (Y.out.below (below_drew (Below.refl _ _)))
    replace B := Aside0.mk (below_drew B.out)
    have L7 := Aside0.mk (And.intro (blk_lt X.out) (blk_lt Y.out))
    go_region_held3 (fun W => ∀ i, W.cell? ⟨w.heap.size, i, none⟩ = (#[.int .i64 h.f0, .int .u64 h.f1, .int .u64 h.f2, .int .u64 h.f3, .int .u64 h.f4, .slice A5 h.f5.length c5, .slice A6 h.f6.length c6, .slice A7 h.f7.length c7, .slice A8 h.f8.length c8] : Array Value)[i]?) (first | exact fun i => X.out.cell i | exact fun i => (X.out.alloc _).cell i | exact fun i => Blk.cell (put3_ne X.out (by first | exact Nat.ne_of_lt L7.out.1 | exact Nat.ne_of_lt L8.out.1 | exact Nat.ne_of_lt L10.out.1 | fail) _ _ _) i | exact fun i => Blk.cell (put3_ne (X.out.alloc _) (by first | exact Nat.ne_of_lt L7.out.1 | exact Nat.ne_of_lt L8.out.1 | exact Nat.ne_of_lt L10.out.1 | fail) _ _ _) i | fail) (first | (go_at_call 28; ((with_reducible refine (RR.out _).mono ?_); rintro e w8 ⟨rfl, hb⟩; (first | (replace HV := Aside0.mk (HV.out.below hb); replace X := Aside0.mk (X.out.below hb); replace Y := Aside0.mk (Y.out.below hb); replace B := Aside0.mk (below_then B.out B.out.size hb); clear hb) | (have hb2 := below_then (below_alloc (Below.refl _ _) (.cells #[.int .i64 0, .int .i64 0, .int .u64 0] 52)) (by simp) hb; have Z := Aside0.mk (show Blk w8 w7.heap.size #[.int .i64 0, .int .i64 0, .int .u64 0] 52 from (Blk.new _ #[.int .i64 0, .int .i64 0, .int .u64 0] 52).below hb); have hzf := fun i => blk_frozen Z.out i; have hzc := fun i => Blk.cell Z.out i; replace HV := Aside0.mk (HV.out.below hb2); replace X := Aside0.mk (X.out.below hb2); replace Y := Aside0.mk (Y.out.below hb2); replace B := Aside0.mk (below_then B.out B.out.size hb2); clear hb hb2) | (have hbq : Below (w7.drew.alloc (.cells #[.int .i64 0, .int .i64 0, .int .u64 0] 52)).heap.size (w7.drew.alloc (.cells #[.int .i64 0, .int .i64 0, .int .u64 0] 52)) w8 := hb; have hb2 := below_then (below_alloc (Below.refl w7.drew.heap.size w7.drew) (.cells #[.int .i64 0, .int .i64 0, .int .u64 0] 52)) (by simp) hbq; have Z := Aside0.mk (show Blk w8 w7.heap.size #[.int .i64 0, .int .i64 0, .int .u64 0] 52 from (Blk.new w7.drew #[.int .i64 0, .int .i64 0, .int .u64 0] 52).below hbq); have hzf := fun i => blk_frozen Z.out i; have hzc := fun i => Blk.cell Z.out i; replace HV := Aside0.mk (HV.out.below hb2); replace X := Aside0.mk (X.out.below hb2); replace Y := Aside0.mk (Y.out.below hb2); replace B := Aside0.mk (below_then B.out B.out.size hb2); clear hb hb2 hbq)); have L8 := Aside0.mk (And.intro (blk_lt X.out) (blk_lt Y.out)))) | (go_at_call 27; (with_reducible refine (AA.out _ _ (by first | exact HV.out | exact HV.out.below (below_alloc (Below.refl _ _) _))).mono ?_); rintro e w10 ⟨rfl, hb⟩; (first | (replace Z := Aside0.mk (Z.out.below hb); replace hzf := fun i => blk_frozen Z.out i; replace hzc := fun i => Blk.cell Z.out i; replace HV := Aside0.mk (HV.out.below hb); replace X := Aside0.mk (X.out.below hb); replace Y := Aside0.mk (Y.out.below hb); replace B := Aside0.mk (below_then B.out B.out.size hb); clear hb) | (replace HV := Aside0.mk (HV.out.below hb); replace X := Aside0.mk (X.out.below hb); replace Y := Aside0.mk (Y.out.below hb); replace B := Aside0.mk (below_then B.out B.out.size hb); clear hb; have hya := fun i => (Y.out.alloc (.cells #[.int .i64 q1, .int .i64 q2, .int .u64 q3] 52)).cell i; have hzn := fun i => (Blk.new w10 #[.int .i64 q1, .int .i64 q2, .int .u64 q3] 52).cell i; have hzq := fun i => blk_frozen (Blk.new w10 #[.int .i64 0, .int .i64 0, .int .u64 0] 52) i; have hzqc := fun i => Blk.cell (Blk.new w10 #[.int .i64 0, .int .i64 0, .int .u64 0] 52) i) | (have hb2 := below_then (below_alloc (Below.refl _ _) (.cells #[.int .i64 0, .int .i64 0, .int .u64 0] 52)) (by simp) hb; have Z := Aside0.mk ((Blk.new _ #[.int .i64 0, .int .i64 0, .int .u64 0] 52).below hb); have hzf := fun i => blk_frozen Z.out i; have hzc := fun i => Blk.cell Z.out i; replace HV := Aside0.mk (HV.out.below hb2); replace X := Aside0.mk (X.out.below hb2); replace Y := Aside0.mk (Y.out.below hb2); replace B := Aside0.mk (below_then B.out B.out.size hb2); clear hb hb2)); have L10 := Aside0.mk (And.intro (blk_lt X.out) (blk_lt Y.out))) | fail)
    all_goals first | (have Zq := Z.out; obtain ⟨hb', hy', hz'⟩ := put3_all B.out Y.out Zq (by first | exact Nat.le_of_lt L7.out.1 | exact Nat.le_of_lt L8.out.1 | exact Nat.le_of_lt L10.out.1 | fail) (by first | exact Nat.ne_of_lt L7.out.2 | exact Nat.ne_of_lt L8.out.2 | exact Nat.ne_of_lt L10.out.2 | fail) (.int .i64 q1) (.int .i64 q2) (.int .u64 q3)) | (have hb' := below_alloc B.out (.cells #[.int .i64 q1, .int .i64 q2, .int .u64 q3] 52); have hy' := Y.out.alloc (.cells #[.int .i64 q1, .int .i64 q2, .int .u64 q3] 52); have hz' := Blk.new w10 #[.int .i64 q1, .int .i64 q2, .int .u64 q3] 52) | fail
    all_goals replace B := Aside0.mk hb'
    all_goals have hyc := fun i => Blk.cell hy' i
    all_goals have hzc := fun i => Blk.cell hz' i
    all_goals go_wp2_with (first | (go_at_call 22; (with_reducible refine (awake29_c _).mono ?_); rintro e w9 ⟨rfl, hb⟩; replace B := Aside0.mk (below_then B.out B.out.size hb); clear hb))
    all_goals go_ret
    all_goals exact ⟨rfl, B.out⟩
instance (h : Hi) : Decidable (wfI29 h) := by unfold wfI29; exact inferInstance
theorem rankQuantiles_r (h : Hi) (n d : Int) (hw0 : wfI29 h) (hn : u64 n) (hd : u64 d) (w : World) (u x1 x2 : Value) (hx1 : x1 = .int .u64 n) (hx2 : x2 = .int .u64 d) (hua : HI w u h) : Calls Try.prog 5 #[u, x1, x2] w fun e w' => e = .returned (.bool true) ∧ Below w.heap.size w w' := by
  subst hx1; subst hx2
  exact rankQuantiles_c h hw0 n d hn hd w u hua
def tidepolelaw29_RankQuantiles.f (s0 z0 zc0 ct0 sm0 : Int) (l0_5 l0_6 : List Sp) (l0_7 l0_8 : List Int) (n : Int) (d : Int) : Option Bool := if wfI29 ⟨s0, z0, zc0, ct0, sm0, l0_5, l0_6, l0_7, l0_8⟩ ∧ u64 n ∧ u64 d then some true else none
theorem tidepolelaw29_RankQuantiles.calls (s0 : Int) (z0 : Int) (zc0 : Int) (ct0 : Int) (sm0 : Int) (A0_5 : Option Addr) (c0_5 : Nat) (l0_5 : List Sp) (A0_6 : Option Addr) (c0_6 : Nat) (l0_6 : List Sp) (A0_7 : Option Addr) (c0_7 : Nat) (l0_7 : List Int) (A0_8 : Option Addr) (c0_8 : Nat) (l0_8 : List Int) (n : Int) (d : Int) (r : Bool) (w : World) (hr0_5 : Kd.C kSp w A0_5 l0_5.length l0_5) (hc0_5 : l0_5.length ≤ c0_5) (hr0_6 : Kd.C kSp w A0_6 l0_6.length l0_6) (hc0_6 : l0_6.length ≤ c0_6) (hr0_7 : Kd.C (Kd.int .i64) w A0_7 l0_7.length l0_7) (hc0_7 : l0_7.length ≤ c0_7) (hr0_8 : Kd.C (Kd.int .i64) w A0_8 l0_8.length l0_8) (hc0_8 : l0_8.length ≤ c0_8) (h : tidepolelaw29_RankQuantiles.f s0 z0 zc0 ct0 sm0 l0_5 l0_6 l0_7 l0_8 n d = some r) :
    Calls Try.prog 5 #[.agg #[.int .i64 s0, .int .u64 z0, .int .u64 zc0, .int .u64 ct0, .int .u64 sm0, .slice A0_5 l0_5.length c0_5, .slice A0_6 l0_6.length c0_6, .slice A0_7 l0_7.length c0_7, .slice A0_8 l0_8.length c0_8], .int .u64 n, .int .u64 d] w fun e w' => e = .returned (.bool r) ∧ Below w.heap.size w w' := by
  obtain ⟨⟨q0, q1, q2⟩, rfl⟩ := of_ite_some h
  exact rankQuantiles_r _ _ _ q0 q1 q2 w _ _ _ rfl rfl (HI.mk (h := ⟨s0, z0, zc0, ct0, sm0, l0_5, l0_6, l0_7, l0_8⟩) (.of hr0_5 hc0_5) (.of hr0_6 hc0_6) (.of hr0_7 hc0_7) (.of hr0_8 hc0_8))
end Go.Proofs.Ytfbjjbbhnmoolaa.P
namespace Go.Proofs.Ytfbjjbbhnmoolaa.P
def headSigns : List Char := List.map Char.ofNat [104, 97, 114, 110, 101, 115, 115, 32, 51, 53, 53, 101, 97, 48, 49, 98, 48, 56, 55, 98, 98, 56, 101, 101, 97, 56, 56, 52, 97, 48, 50, 102, 52, 101, 54, 51, 100, 51, 51, 48, 48, 52, 99, 100, 101, 100, 50, 57, 51, 49, 54, 54, 54, 57, 52, 54, 57, 54, 99, 55, 53, 97, 100, 57, 52, 101, 99, 54, 50, 99, 101, 99, 32, 99, 117, 116, 32, 97, 116, 32, 116, 105, 100, 101, 112, 111, 108, 101, 47, 116, 105, 100, 101, 112, 111, 108, 101, 108, 97, 119, 49, 49, 46, 82, 101, 115, 101, 116, 66, 111, 116, 104, 32, 116, 105, 100, 101, 112, 111, 108, 101, 47, 116, 105, 100, 101, 112, 111, 108, 101, 108, 97, 119, 48, 57, 46, 72, 105, 115, 116, 87, 97, 108, 107, 115, 32, 116, 105, 100, 101, 112, 111, 108, 101, 47, 116, 105, 100, 101, 112, 111, 108, 101, 108, 97, 119, 50, 57, 46, 82, 97, 110, 107, 81, 117, 97, 110, 116, 105, 108, 101, 115, 32, 116, 105, 100, 101, 112, 111, 108, 101, 47, 116, 105, 100, 101, 112, 111, 108, 101, 108, 97, 119, 49, 48, 46, 70, 104, 105, 115, 116, 70, 108, 111, 97, 116, 115, 32, 116, 105, 100, 101, 112, 111, 108, 101, 47, 116, 105, 100, 101, 112, 111, 108, 101, 108, 97, 119, 49, 48, 46, 70, 104, 105, 115, 116, 66, 97, 99, 107, 32, 116, 105, 100, 101, 112, 111, 108, 101, 47, 116, 105, 100, 101, 112, 111, 108, 101, 108, 97, 119, 49, 48, 46, 70, 104, 105, 115, 116, 70, 114, 111, 109]
theorem head_is : Try.prog.initOrder = String.ofList headSigns := by kernel_rfl
theorem head_signs : Try.prog.initOrder.toList = headSigns := by rw [head_is]; exact String.toList_ofList
theorem head_first : (behindMainWord (wordsSigns headSigns)).head? = some "cut".toList := by kernel_rfl
theorem head_words : ∃ r, behindMainWord (wordsSigns headSigns) = "cut".toList :: r := by have h := head_first; cases h2 : behindMainWord (wordsSigns headSigns) with | nil => rw [h2] at h; cases h | cons c r => rw [h2] at h; injection h with h; exact ⟨r, by rw [h]⟩
theorem strip_cut (r : List (List Char)) : stripLifts liftWords ("cut".toList :: r) = ([], "cut".toList :: r) := by kernel_rfl
theorem head_lifts : Try.prog.headLifts = [] := by obtain ⟨r, hr⟩ := head_words; unfold Program.headLifts; rw [head_signs, hr, strip_cut]; kernel_rfl
theorem head_doorFits : Try.prog.doorFits [] = true := by kernel_rfl
theorem head_laysLater : Try.prog.laysLater = false := by kernel_rfl
theorem head_bearsReflect : Try.prog.bearsReflect = false := by kernel_rfl
theorem mayEnter_of {P : Program} {L : List Char} {r : List (List Char)} (h1 : P.initOrder.toList = L) (h2 : behindMainWord (wordsSigns L) = "cut".toList :: r) (h3 : P.doorFits [] = true) (h4 : P.laysLater = false) (h5 : P.bearsReflect = false) : P.mayEnter = true := by unfold Program.mayEnter; rw [h1, h2]; simp only [strip_cut, h3, h4, h5]; kernel_rfl
theorem head_mayEnter : Try.prog.mayEnter = true := by obtain ⟨r, hr⟩ := head_words; exact mayEnter_of head_signs hr head_doorFits head_laysLater head_bearsReflect
theorem head_liftsFinal : Try.prog.liftsFinal = false := by obtain ⟨r, hr⟩ := head_words; unfold Program.liftsFinal; rw [head_signs, head_lifts, hr]; kernel_rfl
theorem make_of {P : Program} {L : List Char} {r : List (List Char)} (h1 : P.initOrder.toList = L) (h2 : behindMainWord (wordsSigns L) = "cut".toList :: r) : P.make = some .cut := by unfold Program.make; rw [h1, h2]; kernel_rfl
theorem head_make : Try.prog.make = some .cut := by obtain ⟨r, hr⟩ := head_words; exact make_of head_signs hr
theorem head_laidOut : laidOutB Try.prog = true := by kernel_rfl
theorem head_mapsRowed : mapsRowed Try.prog = true := by kernel_rfl
theorem head_stops : (Try.prog.stops == []) = true := by kernel_rfl
theorem head_stopKnobs : (Try.prog.stopKnobs == []) = true := by kernel_rfl
theorem head_plainKeys : Try.prog.plainKeys = true := by kernel_rfl
theorem head_stopsHeard : Try.prog.stopsHeard = true := by kernel_rfl
end Go.Proofs.Ytfbjjbbhnmoolaa.P
namespace Go.Proofs.Ytfbjjbbhnmoolaa.Pure
open Go.RowKit Go.Proofs.Ytfbjjbbhnmoolaa.P Go.Proofs.YtfbjjbbhnmoolaaW.PrintWords
theorem RankQuantiles : ∀ (x0 : S26) (a1 : Int) (a2 : Int), wf26 x0 → (inI .u64) a1 → (inI .u64) a2 → tidepolelaw29_RankQuantiles.f x0.f0 x0.f1 x0.f2 x0.f3 x0.f4 x0.f5 x0.f6 x0.f7 x0.f8 a1 a2 = some true := fun _ _ _ h0 h1 h2 => if_pos ⟨wfI29_of h0, u64_of h1, u64_of h2⟩
end Go.Proofs.Ytfbjjbbhnmoolaa.Pure
namespace Go.Proofs.Ytfbjjbbhnmoolaa.rankQuantiles
open Go.ChangeShapes Go.WideShapes Go.ChangeAt Go.RowKit Go.Proofs.Ytfbjjbbhnmoolaa.P Go.Proofs.YtfbjjbbhnmoolaaW.PrintWords
theorem own : ownKnob Try.prog.godebug = none := by kernel_rfl
theorem laidOut : laidOutB Try.prog = true := by kernel_rfl
set_option maxRecDepth 100000 in
set_option maxHeartbeats 4000000 in
theorem lifted (os : Os) (started : os.Started) (H : Type) (enc : TypeId × Value → H) :
    ReturnsInHanded {} Try.checked os 5 .any (Rows.rankQuantilesSpec.pre6 enc Try.prog Try.f5 Rows.rankQuantilesRow.domain false) (Rows.rankQuantilesSpec.post enc Try.prog Try.f5 false true false false) := by
  refine returnsInHanded_of_change_sized (C := Try.checked) own started (by kernel_rfl) Try.func5
    (ChangeSpec.witness6 (enc := enc) (C := Try.checked) false ⟨#[], #[.agg #[.int .i64 0, .int .u64 0, .int .u64 0, .int .u64 0, .int .u64 0, .slice none 0 0, .slice none 0 0, .slice none 0 0, .slice none 0 0], .int .u64 0, .int .u64 0], []⟩ 8 (by kernel_rfl) (by kernel_rfl) (by kernel_rfl) (by kernel_rfl)) ?_
  intro W base args ds gs before hval0 hW hcnd hsz0 _
  have hval : ∀ (j : Nat) t v, Try.f5.params[j]? = some t → args[j]? = some v → Value.okWide Try.prog W .any base t v := hval0
  have hW' := hW
  obtain ⟨p, q, hA0, hV, rfl, hfz, hnd⟩ := hW
  have hA : DataW.TrodAll enc Try.prog W 0 (fun _ => true) true Try.f5.params.toList args.toList ds p := hA0
  rw [Try.params5] at hA hval
  obtain ⟨v0, vs0, d0, ds0, p0, q0, hargs, rfl, rfl, h0, r0⟩ := trodAll_cons hA
  obtain ⟨v1, vs1, d1, ds1, p1, q1, rfl, rfl, rfl, h1, r1⟩ := trodAll_cons r0
  obtain ⟨v2, vs2, d2, ds2, p2, q2, rfl, rfl, rfl, h2, r2⟩ := trodAll_cons r1
  obtain ⟨rfl, rfl, rfl⟩ := trodAll_nil r2
  obtain rfl : args = #[v0, v1, v2] := by cases args; simp_all
  obtain ⟨rfl, rfl⟩ := trodVars_none hV
  have k0 := h0
  have lt0 : ∀ x ∈ p0, x.block < W.heap.size := by obtain ⟨m, hm⟩ := k0; exact DataW.trod_lt m _ _ _ hm
  obtain ⟨fu0, hf0⟩ := h0
  obtain ⟨x0, hK0, w0⟩ := opens26 enc W 0 _ true fu0 _ _ hf0
  obtain ⟨cs0, rfl, _⟩ := okWide_struct Try.underlying26 (hval 0 26 v0 rfl rfl)
  obtain ⟨A0_5, c0_5, A0_6, c0_6, A0_7, c0_7, A0_8, c0_8, he0, h0_5_l, hC0_5, h0_6_l, hC0_6, h0_7_l, hC0_7, h0_8_l, hC0_8⟩ := k26_open hK0
  obtain rfl : cs0 = #[.int .i64 x0.f0, .int .u64 x0.f1, .int .u64 x0.f2, .int .u64 x0.f3, .int .u64 x0.f4, .slice A0_5 x0.f5.length c0_5, .slice A0_6 x0.f6.length c0_6, .slice A0_7 x0.f7.length c0_7, .slice A0_8 x0.f8.length c0_8] := by
    have he : cs0.toList = _ := he0
    exact Array.toList_inj.1 he
  obtain ⟨a1, rfl, rfl, rfl, w1⟩ := open_int Try.underlying22 (hval 1 22 v1 rfl rfl) h1
  obtain ⟨a2, rfl, rfl, rfl, w2⟩ := open_int Try.underlying22 (hval 2 22 v2 rfl rfl) h2
  clear hA0 hval0 hsz0
  obtain hk := Pure.RankQuantiles x0 a1 a2 w0 w1 w2
  refine (P.tidepolelaw29_RankQuantiles.calls x0.f0 x0.f1 x0.f2 x0.f3 x0.f4 A0_5 c0_5 x0.f5 A0_6 c0_6 x0.f6 A0_7 c0_7 x0.f7 A0_8 c0_8 x0.f8 a1 a2 true W hC0_5 h0_5_l hC0_6 h0_6_l hC0_7 h0_7_l hC0_8 h0_8_l hk).mono fun e W' ⟨he, bel⟩ => ?_
  subst he
  exact ⟨_, rfl, _, _, _, [], _, [], hW', trodAll_mk1 (shut_bool Try.underlying4 _), (trodAll_cons_mk (Below.trod laidOut (by kernel_rfl) (of_decide_eq_true (by kernel_rfl)) k0 bel lt0) (trodAll_cons_mk (shut_int Try.underlying22 w1) (trodAll_cons_mk (shut_int Try.underlying22 w2) trodAll_mk0))), rfl, bel.frame _, fun h => by cases h⟩
theorem cf0 : (Rows.rankQuantilesRow.wf (OpenSpec.ofChange Rows.rankQuantilesSpec)) = true := by kernel_rfl
theorem cf1 : (laidOutB Try.prog) = true := P.head_laidOut
theorem cf2 : (mapsRowed Try.prog) = true := P.head_mapsRowed
theorem cf3 : (Try.f5.params.all (Try.prog.readableRec ·)) = true := by kernel_rfl
theorem cf4 : (namedTie Try.prog Rows.rankQuantilesRow.named Rows.rankQuantilesSpec.vars) = true := by kernel_rfl
theorem cf5 : ((Rows.rankQuantilesRow.stops == [])) = true := by kernel_rfl
theorem cf6 : ((Try.prog.stops == [])) = true := P.head_stops
theorem cf7 : ((Rows.rankQuantilesRow.knobs == [])) = true := by kernel_rfl
theorem cf8 : ((Try.prog.stopKnobs == [])) = true := P.head_stopKnobs
theorem cf9 : ((Rows.rankQuantilesRow.inPlace == Try.prog.inPlace 5)) = true := by kernel_rfl
theorem cf10 : ((Rows.rankQuantilesRow.unfollowed == Try.prog.unfollowed 5)) = true := by kernel_rfl
theorem cf11 : ((Rows.rankQuantilesRow.recurses == Try.prog.recurses 5)) = true := by kernel_rfl
theorem cf12 : ((Rows.rankQuantilesRow.named == Try.prog.varsNamed 5)) = true := by kernel_rfl
theorem cf13 : ((Rows.rankQuantilesRow.maps == (Try.f5.params.toList ++ Rows.rankQuantilesSpec.plain.varTypes Try.prog).any (Try.prog.mapsRec ·))) = true := by kernel_rfl
theorem cf14 : ((Rows.rankQuantilesRow.ifaces == (Try.f5.params.toList ++ Rows.rankQuantilesSpec.plain.varTypes Try.prog).any (Try.prog.ifacesRec ·))) = true := by kernel_rfl
theorem cf15 : ((Rows.rankQuantilesRow.mapsOut == Try.prog.mapsAmong Try.f5.resultTypes.toList)) = true := by kernel_rfl
theorem cf16 : ((Rows.rankQuantilesRow.loops == (Try.f5.params.toList ++ Rows.rankQuantilesSpec.plain.varTypes Try.prog).any (Try.prog.loopsFrom ·))) = true := by kernel_rfl
theorem cf17 : ((Rows.rankQuantilesRow.wideKeys == (Try.f5.params.toList ++ Rows.rankQuantilesSpec.plain.varTypes Try.prog ++ Try.f5.resultTypes.toList).any (Try.prog.wideKeysFrom ·))) = true := by kernel_rfl
theorem cf18 : (Rows.rankQuantilesSpec.vars.all (Try.prog.varReadable ·)) = true := by kernel_rfl
theorem cf19 : (Try.f5.resultTypes.all (fun t => Try.prog.readableRec t && decide (t < Try.prog.types.size))) = true := by kernel_rfl
theorem cf20 : ((Rows.rankQuantilesRow.ifacesOut == Try.f5.resultTypes.toList.any (Try.prog.ifacesRec ·))) = true := by kernel_rfl
theorem cf21 : ((Rows.rankQuantilesRow.loopsOut == Try.f5.resultTypes.toList.any (Try.prog.loopsFrom ·))) = true := by kernel_rfl
theorem cf22 : ((Rows.rankQuantilesRow.plainKeys == Try.prog.plainKeys)) = true := by rw [P.head_plainKeys]; kernel_rfl
theorem cf23 : (Rows.rankQuantilesRow.shortTexts.isNone) = true := by kernel_rfl
theorem cf24 : (Try.prog.stopsHeard) = true := P.head_stopsHeard
theorem cf25 : (Try.prog.mayEnter) = true := P.head_mayEnter
theorem cf26 : ((Rows.rankQuantilesRow.lifted == Try.prog.liftsFinal)) = true := by rw [P.head_liftsFinal]; kernel_rfl
theorem cf27 : ((Try.prog.make == some Rows.rankQuantilesRow.make)) = true := by rw [P.head_make]; kernel_rfl
theorem cf28 : ((Rows.rankQuantilesRow.kinds == (if Rows.rankQuantilesRow.domain.isEmpty then [] else Try.f5.params.toList.map fun t => match Try.prog.underlying t with | some (.int k) => some k | _ => none))) = true := by kernel_rfl
theorem cf29 : ((Rows.rankQuantilesRow.pinned == Rows.rankQuantilesRow.pinnedBy)) = true := by kernel_rfl
theorem cf30 : ((Rows.rankQuantilesRow.veiled == (Try.f5.params.toList ++ Rows.rankQuantilesSpec.plain.varTypes Try.prog ++ Try.f5.resultTypes.toList).any (Try.prog.veiledRec ·))) = true := by kernel_rfl
theorem cf31 : (Rows.rankQuantilesRow.veiledFits Try.prog Try.f5.params.toList (Try.f5.params.toList ++ Rows.rankQuantilesSpec.plain.varTypes Try.prog ++ Try.f5.resultTypes.toList)) = true := by kernel_rfl
theorem band_mk {a b : Bool} (h : a = true) (k : b = true) : (a && b) = true := by rw [h, k]; rfl
theorem closed : joinedFacts Try.prog 5 Try.f5 Rows.rankQuantilesSpec Rows.rankQuantilesRow = true := by unfold joinedFacts; exact (band_mk (band_mk (band_mk (band_mk (band_mk (band_mk (band_mk (band_mk (band_mk (band_mk (band_mk (band_mk (band_mk (band_mk (band_mk (band_mk (band_mk (band_mk (band_mk (band_mk (band_mk (band_mk (band_mk (band_mk (band_mk (band_mk (band_mk (band_mk (band_mk (band_mk (band_mk cf0 cf1) cf2) cf3) cf4) cf5) cf6) cf7) cf8) cf9) cf10) cf11) cf12) cf13) cf14) cf15) cf16) cf17) cf18) cf19) cf20) cf21) cf22) cf23) cf24) cf25) cf26) cf27) (by kernel_rfl)) cf29) cf30) cf31)
theorem over : Rows.rankQuantilesRow.holds Try.pinned (OpenSpec.ofChange Rows.rankQuantilesSpec) :=
  OpenClaim.holds_of_wide 5 Try.f5 rfl rfl rfl rfl rfl rfl rfl ⟨rfl, rfl, rfl, rfl, rfl⟩ rfl rfl rfl rfl rfl (by kernel_rfl) Try.func5 closed
    (of_decide_eq_true (by kernel_rfl)) (by unfold Func.isWrapper; first | (rw [if_pos (by decide +kernel)]; kernel_rfl) | (rw [if_neg (by decide +kernel)]; exact ⟨rfl, rfl⟩))
    (fun os started H enc _ => lifted os started H enc)
theorem proved : Rows.RankQuantilesSaid := over
#print axioms proved
end Go.Proofs.Ytfbjjbbhnmoolaa.rankQuantiles
namespace Go.Proofs.Ytfbjjbbhnmoolaa
theorem rankQuantiles_holds : Rows.RankQuantilesSaid := rankQuantiles.proved
end Go.Proofs.Ytfbjjbbhnmoolaa
