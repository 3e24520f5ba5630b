/- ScaleFits: the part that this text bears of the proof that the statement answers true for every input. No condition. -/
import Derived.Test.YtooiccpmngmapaaProg
import Derived.Below
import Derived.Deep.Draws
import Derived.Deep.AppendLies
import Derived.Maps.AppendAt
import Derived.OwnWalk
import Derived.Laws.BytesArg
import Derived.Laws.MakeOwn
import Derived.Laws.OwnMore
import Derived.Deep.OwnRows
import Derived.Tactics
import Derived.Lib.ConvBytes
import Derived.Laws.Slices
import Derived.WalkKit
import Derived.KernelRfl
import Derived.RowKit3
import Derived.Deep.LoopGhost
import Derived.Deep.QuietTactic
import Derived.BigQuiet
import Derived.WideLaws
import Derived.Deep.DeepCutAuto
import Derived.Deep.CutBlock
import Derived.Deep.RegionHeld3
import Derived.Laws.Rows
import Derived.Lib.AppendStr
import Derived.ArgAppend
import Derived.Laws.IdiomCopy
import Derived.OrdersHeld
import Derived.Laws.BitsLemmas
import Derived.RowKit
import Derived.Deep.Slices
import Derived.ChangeArms
import Derived.Shelf.Abstract
import Derived.WalkSpells
import Derived.RangeFuncNested
import Derived.RangeFuncBound
import Derived.RangeFuncCalls
import Derived.RangeFuncLeaves
import Derived.RangeFuncBox
import Derived.OwnWalkIn
import Derived.TacticsInMore
import Derived.LoopNIn
import Derived.LoopIn
import Derived.Laws.Externs
import Derived.Shelf.Spec.BitsCarry
import Derived.RegionIn
import Derived.Sort.QuietTacIn
import Derived.Deep.RegionWith
import Derived.Laws.BitsAllLaws
import Derived.Outline
import Derived.Laws.Tables
import Derived.Deep.WholeRow
import Derived.Laws.CopyOwn
import Derived.Laws.ResultCell
import Derived.Laws.StructEq
import Derived.Test.YtooiccpmngmapaaQScaleFitsWWords
import Derived.Test.YtooiccpmngmapaaQScaleFitsWLast
import Derived.Test.YtooiccpmngmapaaQScaleFitsWTab
import Derived.Test.YtooiccpmngmapaaQScaleFitsWFour
import Derived.Test.YtooiccpmngmapaaQScaleFitsWQPut
import Derived.Test.YtooiccpmngmapaaQScaleFitsWApart
import Derived.Test.YtooiccpmngmapaaQScaleFitsWArr
import Derived.Test.YtooiccpmngmapaaQScaleFitsWZeros
import Derived.Test.YtooiccpmngmapaaQScaleFitsWFoot
import Derived.Test.YtooiccpmngmapaaQScaleFitsWKept
import Derived.Test.YtooiccpmngmapaaQScaleFitsWShare
import Derived.Test.YtooiccpmngmapaaQScaleFitsWN
import Derived.Test.YtooiccpmngmapaaQScaleFitsWFootNe
import Derived.Test.YtooiccpmngmapaaQScaleFitsWAt
import Derived.Test.YtooiccpmngmapaaQScaleFitsWEqStruct
import Derived.Test.YtooiccpmngmapaaQScaleFitsWRepsOne
import Derived.Test.YtooiccpmngmapaaQScaleFitsWInv
import Derived.Test.YtooiccpmngmapaaQScaleFitsWInvWords
import Derived.Test.YtooiccpmngmapaaQScaleFitsWGuard
import Derived.Test.YtooiccpmngmapaaQScaleFitsWNEv
import Derived.Test.YtooiccpmngmapaaQScaleFitsWMore
import Derived.Test.YtooiccpmngmapaaRows
import Derived.Test.YtooiccpmngmapaaQScaleFits0
import Derived.Test.YtooiccpmngmapaaQScaleFits1
import Derived.Test.YtooiccpmngmapaaQScaleFits2
set_option linter.unusedVariables false
set_option linter.unusedSimpArgs false
namespace Go.Proofs.Ytooiccpmngmapaa.P
open Go.RowKit Go.Shelf Go.Proofs.YtooiccpmngmapaaW.PrintWords Go.Proofs.YtooiccpmngmapaaW.PrintLast Go.Proofs.YtooiccpmngmapaaW.PrintMore
theorem sumV_cons (p : Pr) (l : List Pr) : sumV (p :: l) = p.f1 + sumV l := by simp [sumV]
theorem widenGo_spec (s : Int) : ∀ (l : List Pr) (cur : Pr) (r : List Pr), widenGo s cur l = some r → (∀ p ∈ l, 0 ≤ p.f1 ∧ p.f1 ≤ 9223372036854775807) → 0 ≤ cur.f1 → cur.f1 ≤ 9223372036854775807 →
    r.length ≤ l.length + 1 ∧ sumV r = cur.f1 + sumV l ∧ (∀ p ∈ r, 0 ≤ p.f1 ∧ p.f1 ≤ 9223372036854775807) ∧ (∀ p ∈ r, p.f0 = cur.f0 ∨ ∃ q ∈ l, p.f0 = placeR q.f0 s) := by
  intro l
  induction l with
  | nil =>
    intro cur r h hn h0 h1
    cases h
    refine ⟨by simp, by simp [sumV], fun p hp => ?_, fun p hp => ?_⟩
    · obtain rfl : p = cur := by simpa using hp
      exact ⟨h0, h1⟩
    · obtain rfl : p = cur := by simpa using hp
      exact .inl rfl
  | cons p t ih =>
    intro cur r h hn h0 h1
    have hp := hn p (by simp)
    have hn' : ∀ q ∈ t, 0 ≤ q.f1 ∧ q.f1 ≤ 9223372036854775807 := fun q hq => hn q (List.mem_cons_of_mem _ hq)
    simp only [widenGo] at h
    split at h
    · rename_i he
      split at h
      · rename_i ho
        obtain ⟨a, b, c, d⟩ := ih _ _ h hn' (by show 0 ≤ cur.f1 + p.f1; omega) ho
        refine ⟨by simp; omega, by rw [b, sumV_cons]; simp only; omega, c, fun q hq => ?_⟩
        rcases d q hq with d | ⟨q', hq', d⟩
        · exact .inl d
        · exact .inr ⟨q', List.mem_cons_of_mem _ hq', d⟩
      · cases h
    · cases hr : widenGo s ⟨placeR p.f0 s, p.f1⟩ t with
      | none => rw [hr] at h; cases h
      | some r' =>
        rw [hr] at h
        cases h
        obtain ⟨a, b, c, d⟩ := ih _ _ hr hn' hp.1 hp.2
        refine ⟨by simp; omega, by rw [sumV_cons, b, sumV_cons], fun q hq => ?_, fun q hq => ?_⟩
        · rcases List.mem_cons.1 hq with rfl | hq
          · exact ⟨h0, h1⟩
          · exact c q hq
        · rcases List.mem_cons.1 hq with rfl | hq
          · exact .inl rfl
          · rcases d q hq with d | ⟨q', hq', d⟩
            · exact .inr ⟨p, by simp, d⟩
            · exact .inr ⟨q', List.mem_cons_of_mem _ hq', d⟩
theorem widenGo_ups (s : Int) : ∀ (l : List Pr) (cur : Pr) (r : List Pr), widenGo s cur l = some r → Ups (fun p : Pr => p.f0) l → (∀ q ∈ l, cur.f0 ≤ placeR q.f0 s) → (∀ p ∈ l, 0 ≤ p.f1 ∧ p.f1 ≤ 9223372036854775807) → 0 ≤ cur.f1 → cur.f1 ≤ 9223372036854775807 → Ups (fun p : Pr => p.f0) r := by
  intro l
  induction l with
  | nil => intro cur r h _ _ _ _ _; cases h; exact List.pairwise_cons.2 ⟨fun y hy => by simp at hy, List.Pairwise.nil⟩
  | cons p t ih =>
    intro cur r h hu hle hn h0 h1
    have hp := hn p (by simp)
    have hn' : ∀ q ∈ t, 0 ≤ q.f1 ∧ q.f1 ≤ 9223372036854775807 := fun q hq => hn q (List.mem_cons_of_mem _ hq)
    simp only [widenGo] at h
    split at h
    · rename_i he
      split at h
      · rename_i ho
        exact ih _ _ h hu.tail (fun q hq => hle q (List.mem_cons_of_mem _ hq)) hn' (by show 0 ≤ cur.f1 + p.f1; omega) ho
      · cases h
    · rename_i he
      cases hr : widenGo s ⟨placeR p.f0 s, p.f1⟩ t with
      | none => rw [hr] at h; cases h
      | some r' =>
        rw [hr] at h
        cases h
        have hm : ∀ q ∈ t, placeR p.f0 s ≤ placeR q.f0 s := fun q hq => place_mono (Int.le_of_lt (hu.head q hq))
        have := ih _ _ hr hu.tail hm hn' hp.1 hp.2
        refine List.pairwise_cons.2 ⟨fun y hy => ?_, this⟩
        have hlt : cur.f0 < placeR p.f0 s := by have := hle p (by simp); omega
        obtain ⟨_, _, _, d⟩ := widenGo_spec s _ _ _ hr hn' hp.1 hp.2
        rcases d y hy with d | ⟨q', hq', d⟩
        · show cur.f0 < y.f0; rw [d]; exact hlt
        · have := hm q' hq'
          show cur.f0 < y.f0; omega
theorem widenW_ok {s : Int} {l r : List Pr} (h : RowOK l) (hr : widenW s l = some r) : RowOK r ∧ r.length ≤ l.length ∧ sumV r = sumV l ∧ ∀ p ∈ r, ∃ q ∈ l, p.f0 = placeR q.f0 s := by
  have hc : ∀ q ∈ l, 0 ≤ q.f1 ∧ q.f1 ≤ 9223372036854775807 := fun q hq => (h.cnt q hq).2
  cases l with
  | nil => cases hr; exact ⟨RowOK.nil, by simp, rfl, fun p hp => by simp at hp⟩
  | cons p t =>
    have hp := hc p (by simp)
    have hn : ∀ q ∈ t, 0 ≤ q.f1 ∧ q.f1 ≤ 9223372036854775807 := fun q hq => hc q (List.mem_cons_of_mem _ hq)
    obtain ⟨a, b, c, d⟩ := widenGo_spec s t _ r hr hn hp.1 hp.2
    have hu := widenGo_ups s t _ r hr h.ups.tail (fun q hq => place_mono (Int.le_of_lt (h.ups.head q hq))) hn hp.1 hp.2
    have d' : ∀ q ∈ r, ∃ q' ∈ p :: t, q.f0 = placeR q'.f0 s := fun q hq => by
      rcases d q hq with d | ⟨q', hq', d⟩
      · exact ⟨p, by simp, d⟩
      · exact ⟨q', List.mem_cons_of_mem _ hq', d⟩
    have hl : r.length ≤ (p :: t).length := by simp; omega
    refine ⟨⟨⟨fun q hq => ⟨?_, ?_⟩, Nat.lt_of_le_of_lt hl h.wf.2⟩, Nat.le_trans hl h.len, fun q hq => ⟨?_, c q hq⟩, hu⟩, hl, by rw [b, sumV_cons], d'⟩
    · obtain ⟨q', hq', e⟩ := d' q hq
      rw [e]; exact placeR_i64 (h.wf.1 q' hq').1
    · have := c q hq
      unfold i64; omega
    · obtain ⟨q', hq', e⟩ := d' q hq
      rw [e]; exact placeR_i64 (h.wf.1 q' hq').1
def lowH (h : Hi) (tt : Int) : Hi := ⟨tt, h.f1, h.f2, h.f3, h.f4, h.f5, h.f6, h.f7, h.f8⟩
def scaleR (h : Hi) (tt : Int) : Hi × Int :=
  if checkR h ≠ 0 then (emptyH, checkR h) else if tt < -4 ∨ tt > h.f0 then (emptyH, 21)
  else match widenW (h.f0 - tt) (openR h).1, widenW (h.f0 - tt) (openR h).2.1 with
    | some p, some n => makeR (lowH h tt) (some0 p) (some0 n)
    | _, _ => (emptyH, 28)
theorem nn_row {l : List Pr} (h : RowOK l) : nnRow l := h.cnt
theorem widenR_len (s : Int) {l : List Pr} (h : RowOK l) : RowOK (widenR s l).1 ∧ (widenR s l).1.length ≤ l.length := by
  unfold widenR
  cases hr : widenW s l with
  | none => exact ⟨RowOK.nil, by simp⟩
  | some r => exact ⟨(widenW_ok h hr).1, (widenW_ok h hr).2.1⟩
theorem checkR_schema {h : Hi} (hc : checkR h = 0) : -4 ≤ h.f0 ∧ h.f0 ≤ 8 := by
  unfold checkR openR openRes at hc
  split at hc
  · cases hc
  · omega
end Go.Proofs.Ytooiccpmngmapaa.P
namespace Go.Proofs.Ytooiccpmngmapaa.P
open Go.RowKit Go.Shelf Go.Proofs.YtooiccpmngmapaaW.PrintWords Go.Proofs.YtooiccpmngmapaaW.PrintLast Go.Proofs.YtooiccpmngmapaaW.PrintMore
theorem blk_put_ne' {W : World} {g g' : Nat} {o : Obj} (h : W.heap[g]? = some o) (hne : g ≠ g') (j : Nat) (u : Value) : (W.setCell ⟨g', j, none⟩ u).heap[g]? = some o := (Below.heap_setCell W ⟨g', j, none⟩ u g hne).trans h
theorem Blk.lt1 {w : World} {g : Nat} {cs : Array Value} {t : TypeId} (h : Blk w g cs t) : g + 1 ≤ w.heap.size := blk_lt h
def FJ {α : Type} (d : Kd α) (base : Nat) (w : World) (v : Value) (l : List α) : Prop := FI d base w v l
theorem FJ.below {α : Type} {d : Kd α} {base : Nat} {w w' : World} {v : Value} {l : List α} (h : FJ d base w v l) (hb : Below w.heap.size w w') : FJ d base w' v l := FI.step h (KA.below hb)
theorem FJ.step {α : Type} {d : Kd α} {base : Nat} {w w' : World} {v : Value} {l : List α} (h : FJ d base w v l) (k : KA base w w') : FJ d base w' v l := FI.step h k
theorem FJ.now {α : Type} {d : Kd α} {base : Nat} {w : World} {v : Value} {l : List α} (h : FJ d base w v l) : SI d w v l := FI.now h
theorem widen_c (base : Nat) (s : Int) (l : List Pr) (hr : RowOK l) (w : World) (v : Value) (hv : SI kPr w v l) (hbase : base ≤ w.heap.size) : Calls Try.prog 80 #[v, .int .i64 s, .func (.func 81) #[] #[]] w fun e w' =>
    ∃ v0, e = .returned (.tuple #[v0, .bool (widenR s l).2]) ∧ FJ kPr base w' v0 (widenR s l).1 ∧ Below w.heap.size w w' := by
  obtain ⟨A, c, rfl, hc, hr'⟩ := hv
  have hl := hr.wf.2
  refine (scale_widen_int64.calls (2 * l.length + 5) A c l s (widenR s l).1 (widenR s l).2 w hr' hc (widen_f s l hl (nn_row hr) _ (by omega))).mono ?_
  rintro e w1 ⟨v0, rfl, h0, hb⟩
  exact ⟨v0, rfl, FI.of_R h0 hbase, hb⟩
set_option maxHeartbeats 16000000 in
set_option maxRecDepth 100000 in
theorem scaleI_c (h : Hi) (hw : wfH h) (tt : Int) (ht : i64 tt) (w : World) (v : Value) (hv : HI w v h) : Calls Try.prog 27 #[v, .int .i64 tt] w fun e w' =>
    ∃ v', e = .returned (.tuple #[v', .int .i64 (scaleR h tt).2]) ∧ HF w.heap.size w' v' (scaleR h tt).1 ∧ Below w.heap.size w w' := by
  have hu := Try.underlying29
  obtain ⟨A5, c5, A6, c6, A7, c7, A8, c8, e, s5, s6, s7, s8⟩ := hv.open_
  subst e
  have HV := Aside0.mk hv
  have p0 := pairs_c h hw 0
  have p1 := pairs_c h hw 1
  have rw0 := (openR_row hw).1
  have rw1 := (openR_row hw).2
  rw [show pairsR h 0 = ((openR h).1, checkR h) from by unfold pairsR; rw [if_pos rfl]; rfl] at p0
  rw [show pairsR h 1 = ((openR h).2.1, checkR h) from by unfold pairsR; rw [if_neg (by decide), if_pos rfl]; rfl] at p1
  unfold scaleR
  generalize hce : checkR h = ce at *
  by_cases c0 : ce = 0
  rotate_left
  · rw [if_pos c0]
    have c0a : (ce != 0) = true := bne_iff_ne.2 c0
    simp only at p0
    have P0 := Aside0.mk p0
    clear c0 hce p0 p1 rw0 rw1 hv hw
    have X := Aside0.mk ((Blk.new w #[.int .i64 h.f0, .int .u64 h.f1, .int .u64 h.f2, .int .u64 h.f3, .int .u64 h.f4, .slice A5 h.f5.length c5, .slice A6 h.f6.length c6, .slice A7 h.f7.length c7, .slice A8 h.f8.length c8] 29).alloc (.cells #[.int .i64 0, .int .u64 0, .int .u64 0, .int .u64 0, .int .u64 0, .slice none 0 0, .slice none 0 0, .slice none 0 0, .slice none 0 0] 29)); have hx := fun i => X.out.cell i; have zx := fun i => blk_frozen X.out i
    have Y := Aside0.mk (Blk.at1 (w := w) (.cells #[.int .i64 h.f0, .int .u64 h.f1, .int .u64 h.f2, .int .u64 h.f3, .int .u64 h.f4, .slice A5 h.f5.length c5, .slice A6 h.f6.length c6, .slice A7 h.f7.length c7, .slice A8 h.f8.length c8] 29) #[.int .i64 0, .int .u64 0, .int .u64 0, .int .u64 0, .int .u64 0, .slice none 0 0, .slice none 0 0, .slice none 0 0, .slice none 0 0] 29); have hy := fun i => Y.out.cell i; have zy := fun i => blk_frozen Y.out i
    have B := Aside0.mk (below_alloc (below_alloc (Below.refl w.heap.size w) (.cells #[.int .i64 h.f0, .int .u64 h.f1, .int .u64 h.f2, .int .u64 h.f3, .int .u64 h.f4, .slice A5 h.f5.length c5, .slice A6 h.f6.length c6, .slice A7 h.f7.length c7, .slice A8 h.f8.length c8] 29)) (.cells #[.int .i64 0, .int .u64 0, .int .u64 0, .int .u64 0, .int .u64 0, .slice none 0 0, .slice none 0 0, .slice none 0 0, .slice none 0 0] 29))
    replace HV := Aside0.mk ((HV.out.below (below_alloc (Below.refl _ _) (.cells #[.int .i64 h.f0, .int .u64 h.f1, .int .u64 h.f2, .int .u64 h.f3, .int .u64 h.f4, .slice A5 h.f5.length c5, .slice A6 h.f6.length c6, .slice A7 h.f7.length c7, .slice A8 h.f8.length c8] 29))).below (below_alloc (Below.refl _ _) (.cells #[.int .i64 0, .int .u64 0, .int .u64 0, .int .u64 0, .int .u64 0, .slice none 0 0, .slice none 0 0, .slice none 0 0, .slice none 0 0] 29)))
    go_enter Try.func27, Try.ntmps27
    go_wp2_with (first | (go_at_call 78; (with_reducible refine (P0.out _ _ HV.out).mono ?_); rintro e W1 ⟨v0, rfl, hs, hb⟩; replace B := Aside0.mk (below_then B.out B.out.size hb); replace HV := Aside0.mk (HV.out.below hb); replace X := Aside0.mk (X.out.below hb); replace hx := fun i => X.out.cell i; replace zx := fun i => blk_frozen X.out i; replace Y := Aside0.mk (Y.out.below hb); replace hy := fun i => Y.out.cell i; replace zy := fun i => blk_frozen Y.out i; have S0 := Aside0.mk hs; clear P0; clear hs hb))
    refine bodyPost_ret (results_ct rfl _ _ (w.heap.size + 1) 29 #[.int .i64 0, .int .u64 0, .int .u64 0, .int .u64 0, .int .u64 0, .slice none 0 0, .slice none 0 0, .slice none 0 0, .slice none 0 0] (0, 0) _ rfl (nine Y.out _ _ _ _ _ _ _ _ _) Try.underlying29 rfl (by kernel_rfl)) rfl ?_
    exact ⟨_, rfl, HF.empty _ _, nine_below B.out (by omega) _ _ _ _ _ _ _ _ _⟩
  rw [if_neg (by simp [c0])]
  have hs := checkR_schema (show checkR h = 0 by rw [hce]; exact c0)
  subst c0
  have sw : scale_wrong.f h.f0 tt = some (decide (tt < -4 ∨ tt > h.f0)) := by
    unfold scale_wrong.f
    by_cases c1 : tt < -4
    · rw [if_pos c1]; simp [c1]
    · rw [if_neg c1]; simp [c1]
  have wr : ∀ w : World, Calls Try.prog 79 #[.int .i64 h.f0, .int .i64 tt] w fun e w' => e = .returned (.bool (decide (tt < -4 ∨ tt > h.f0))) ∧ Below w.heap.size w w' := fun w => (scale_wrong.calls h.f0 tt _ w sw).mono fun e w1 h => ⟨h.1, h.2.below⟩
  have P0 := Aside0.mk p0
  have P1 := Aside0.mk p1
  clear hce p0 p1 hv
  by_cases c1 : tt < -4 ∨ tt > h.f0
  · rw [if_pos c1]
    rw [decide_eq_true c1] at wr
    have WR := Aside0.mk wr
    clear c1 wr sw hs hw rw0 rw1 ht
    have X := Aside0.mk ((Blk.new w #[.int .i64 h.f0, .int .u64 h.f1, .int .u64 h.f2, .int .u64 h.f3, .int .u64 h.f4, .slice A5 h.f5.length c5, .slice A6 h.f6.length c6, .slice A7 h.f7.length c7, .slice A8 h.f8.length c8] 29).alloc (.cells #[.int .i64 0, .int .u64 0, .int .u64 0, .int .u64 0, .int .u64 0, .slice none 0 0, .slice none 0 0, .slice none 0 0, .slice none 0 0] 29)); have hx := fun i => X.out.cell i; have zx := fun i => blk_frozen X.out i
    have Y := Aside0.mk (Blk.at1 (w := w) (.cells #[.int .i64 h.f0, .int .u64 h.f1, .int .u64 h.f2, .int .u64 h.f3, .int .u64 h.f4, .slice A5 h.f5.length c5, .slice A6 h.f6.length c6, .slice A7 h.f7.length c7, .slice A8 h.f8.length c8] 29) #[.int .i64 0, .int .u64 0, .int .u64 0, .int .u64 0, .int .u64 0, .slice none 0 0, .slice none 0 0, .slice none 0 0, .slice none 0 0] 29); have hy := fun i => Y.out.cell i; have zy := fun i => blk_frozen Y.out i
    have B := Aside0.mk (below_alloc (below_alloc (Below.refl w.heap.size w) (.cells #[.int .i64 h.f0, .int .u64 h.f1, .int .u64 h.f2, .int .u64 h.f3, .int .u64 h.f4, .slice A5 h.f5.length c5, .slice A6 h.f6.length c6, .slice A7 h.f7.length c7, .slice A8 h.f8.length c8] 29)) (.cells #[.int .i64 0, .int .u64 0, .int .u64 0, .int .u64 0, .int .u64 0, .slice none 0 0, .slice none 0 0, .slice none 0 0, .slice none 0 0] 29))
    replace HV := Aside0.mk ((HV.out.below (below_alloc (Below.refl _ _) (.cells #[.int .i64 h.f0, .int .u64 h.f1, .int .u64 h.f2, .int .u64 h.f3, .int .u64 h.f4, .slice A5 h.f5.length c5, .slice A6 h.f6.length c6, .slice A7 h.f7.length c7, .slice A8 h.f8.length c8] 29))).below (below_alloc (Below.refl _ _) (.cells #[.int .i64 0, .int .u64 0, .int .u64 0, .int .u64 0, .int .u64 0, .slice none 0 0, .slice none 0 0, .slice none 0 0, .slice none 0 0] 29)))
    go_enter Try.func27, Try.ntmps27
    go_wp2_with (first | (go_at_call 78; (with_reducible refine (P0.out _ _ HV.out).mono ?_); rintro e W1 ⟨v0, rfl, hs, hb⟩; replace B := Aside0.mk (below_then B.out B.out.size hb); replace HV := Aside0.mk (HV.out.below hb); replace X := Aside0.mk (X.out.below hb); replace hx := fun i => X.out.cell i; replace zx := fun i => blk_frozen X.out i; replace Y := Aside0.mk (Y.out.below hb); replace hy := fun i => Y.out.cell i; replace zy := fun i => blk_frozen Y.out i; have S0 := Aside0.mk hs; clear P0; clear hs hb) | (go_at_call 78; (with_reducible refine (P1.out _ _ HV.out).mono ?_); rintro e W2 ⟨v1, rfl, hs, hb⟩; replace B := Aside0.mk (below_then B.out B.out.size hb); replace HV := Aside0.mk (HV.out.below hb); replace S0 := Aside0.mk (S0.out.below hb); replace X := Aside0.mk (X.out.below hb); replace hx := fun i => X.out.cell i; replace zx := fun i => blk_frozen X.out i; replace Y := Aside0.mk (Y.out.below hb); replace hy := fun i => Y.out.cell i; replace zy := fun i => blk_frozen Y.out i; have S1 := Aside0.mk hs; clear P1; clear hs hb) | (go_at_call 79; (with_reducible refine (WR.out _).mono ?_); rintro e W3 ⟨rfl, hb⟩; replace B := Aside0.mk (below_then B.out B.out.size hb); replace HV := Aside0.mk (HV.out.below hb); replace S0 := Aside0.mk (S0.out.below hb); replace S1 := Aside0.mk (S1.out.below hb); replace X := Aside0.mk (X.out.below hb); replace hx := fun i => X.out.cell i; replace zx := fun i => blk_frozen X.out i; replace Y := Aside0.mk (Y.out.below hb); replace hy := fun i => Y.out.cell i; replace zy := fun i => blk_frozen Y.out i; clear  hb))
    refine bodyPost_ret (results_ct rfl _ _ (w.heap.size + 1) 29 #[.int .i64 0, .int .u64 0, .int .u64 0, .int .u64 0, .int .u64 0, .slice none 0 0, .slice none 0 0, .slice none 0 0, .slice none 0 0] (0, 0) _ rfl (nine Y.out _ _ _ _ _ _ _ _ _) Try.underlying29 rfl (by kernel_rfl)) rfl ?_
    exact ⟨_, rfl, HF.empty _ _, nine_below B.out (by omega) _ _ _ _ _ _ _ _ _⟩
  rw [if_neg c1]
  rw [decide_eq_false c1] at wr
  have WR := Aside0.mk wr
  obtain ⟨dd, hdd⟩ : ∃ dd, dd = h.f0 - tt := ⟨_, rfl⟩
  have hd : IntKind.i64.wrap (h.f0 - tt) = dd := by rw [i64_w, hdd]; exact wrap_id (by omega) (by omega)
  rw [← hdd]
  have hwl : wfH (lowH h tt) := by
    obtain ⟨_, w⟩ := hw
    exact ⟨ht, w⟩
  have q0 := widen_c (w.heap.size + 1 + 1) dd (openR h).1 rw0
  have q1 := widen_c (w.heap.size + 1 + 1) dd (openR h).2.1 rw1
  have ok0 := widenR_len dd rw0
  have ok1 := widenR_len dd rw1
  clear wr sw hs hw
  cases hA : widenW dd (openR h).1 with
  | none =>
    rw [show widenR dd (openR h).1 = ([], false) from by unfold widenR; rw [hA]] at q0
    generalize widenR dd (openR h).2.1 = b1 at q1
    simp only at q0 ⊢
    have Q0 := Aside0.mk q0
    have Q1 := Aside0.mk q1
    clear q0 q1 ok0 ok1 rw0 rw1 hwl ht c1 hdd hA
    have X := Aside0.mk ((Blk.new w #[.int .i64 h.f0, .int .u64 h.f1, .int .u64 h.f2, .int .u64 h.f3, .int .u64 h.f4, .slice A5 h.f5.length c5, .slice A6 h.f6.length c6, .slice A7 h.f7.length c7, .slice A8 h.f8.length c8] 29).alloc (.cells #[.int .i64 0, .int .u64 0, .int .u64 0, .int .u64 0, .int .u64 0, .slice none 0 0, .slice none 0 0, .slice none 0 0, .slice none 0 0] 29)); have hx := fun i => X.out.cell i; have zx := fun i => blk_frozen X.out i
    have Y := Aside0.mk (Blk.at1 (w := w) (.cells #[.int .i64 h.f0, .int .u64 h.f1, .int .u64 h.f2, .int .u64 h.f3, .int .u64 h.f4, .slice A5 h.f5.length c5, .slice A6 h.f6.length c6, .slice A7 h.f7.length c7, .slice A8 h.f8.length c8] 29) #[.int .i64 0, .int .u64 0, .int .u64 0, .int .u64 0, .int .u64 0, .slice none 0 0, .slice none 0 0, .slice none 0 0, .slice none 0 0] 29); have hy := fun i => Y.out.cell i; have zy := fun i => blk_frozen Y.out i
    have B := Aside0.mk (below_alloc (below_alloc (Below.refl w.heap.size w) (.cells #[.int .i64 h.f0, .int .u64 h.f1, .int .u64 h.f2, .int .u64 h.f3, .int .u64 h.f4, .slice A5 h.f5.length c5, .slice A6 h.f6.length c6, .slice A7 h.f7.length c7, .slice A8 h.f8.length c8] 29)) (.cells #[.int .i64 0, .int .u64 0, .int .u64 0, .int .u64 0, .int .u64 0, .slice none 0 0, .slice none 0 0, .slice none 0 0, .slice none 0 0] 29))
    replace HV := Aside0.mk ((HV.out.below (below_alloc (Below.refl _ _) (.cells #[.int .i64 h.f0, .int .u64 h.f1, .int .u64 h.f2, .int .u64 h.f3, .int .u64 h.f4, .slice A5 h.f5.length c5, .slice A6 h.f6.length c6, .slice A7 h.f7.length c7, .slice A8 h.f8.length c8] 29))).below (below_alloc (Below.refl _ _) (.cells #[.int .i64 0, .int .u64 0, .int .u64 0, .int .u64 0, .int .u64 0, .slice none 0 0, .slice none 0 0, .slice none 0 0, .slice none 0 0] 29)))
    go_enter Try.func27, Try.ntmps27
    go_wp2_with (first | (go_at_call 78; (with_reducible refine (P0.out _ _ HV.out).mono ?_); rintro e W1 ⟨v0, rfl, hs, hb⟩; replace B := Aside0.mk (below_then B.out B.out.size hb); replace HV := Aside0.mk (HV.out.below hb); replace X := Aside0.mk (X.out.below hb); replace hx := fun i => X.out.cell i; replace zx := fun i => blk_frozen X.out i; replace Y := Aside0.mk (Y.out.below hb); replace hy := fun i => Y.out.cell i; replace zy := fun i => blk_frozen Y.out i; have S0 := Aside0.mk hs; clear P0; clear hs hb) | (go_at_call 78; (with_reducible refine (P1.out _ _ HV.out).mono ?_); rintro e W2 ⟨v1, rfl, hs, hb⟩; replace B := Aside0.mk (below_then B.out B.out.size hb); replace HV := Aside0.mk (HV.out.below hb); replace S0 := Aside0.mk (S0.out.below hb); replace X := Aside0.mk (X.out.below hb); replace hx := fun i => X.out.cell i; replace zx := fun i => blk_frozen X.out i; replace Y := Aside0.mk (Y.out.below hb); replace hy := fun i => Y.out.cell i; replace zy := fun i => blk_frozen Y.out i; have S1 := Aside0.mk hs; clear P1; clear hs hb) | (go_at_call 79; (with_reducible refine (WR.out _).mono ?_); rintro e W3 ⟨rfl, hb⟩; replace B := Aside0.mk (below_then B.out B.out.size hb); replace HV := Aside0.mk (HV.out.below hb); replace S0 := Aside0.mk (S0.out.below hb); replace S1 := Aside0.mk (S1.out.below hb); replace X := Aside0.mk (X.out.below hb); replace hx := fun i => X.out.cell i; replace zx := fun i => blk_frozen X.out i; replace Y := Aside0.mk (Y.out.below hb); replace hy := fun i => Y.out.cell i; replace zy := fun i => blk_frozen Y.out i; clear  hb) | (go_at_call 80; (with_reducible refine (Q0.out _ _ S0.out Y.out.lt1).mono ?_); rintro e W4 ⟨u0, rfl, hs, hb⟩; replace B := Aside0.mk (below_then B.out B.out.size hb); replace HV := Aside0.mk (HV.out.below hb); replace S0 := Aside0.mk (S0.out.below hb); replace S1 := Aside0.mk (S1.out.below hb); replace X := Aside0.mk (X.out.below hb); replace hx := fun i => X.out.cell i; replace zx := fun i => blk_frozen X.out i; replace Y := Aside0.mk (Y.out.below hb); replace hy := fun i => Y.out.cell i; replace zy := fun i => blk_frozen Y.out i; have U0 := Aside0.mk hs; clear Q0; clear hs hb) | (go_at_call 80; (with_reducible refine (Q1.out _ _ S1.out Y.out.lt1).mono ?_); rintro e W5 ⟨u1, rfl, hs, hb⟩; replace B := Aside0.mk (below_then B.out B.out.size hb); replace HV := Aside0.mk (HV.out.below hb); replace S0 := Aside0.mk (S0.out.below hb); replace S1 := Aside0.mk (S1.out.below hb); replace U0 := Aside0.mk (U0.out.below hb); replace X := Aside0.mk (X.out.below hb); replace hx := fun i => X.out.cell i; replace zx := fun i => blk_frozen X.out i; replace Y := Aside0.mk (Y.out.below hb); replace hy := fun i => Y.out.cell i; replace zy := fun i => blk_frozen Y.out i; have U1 := Aside0.mk hs; clear Q1; clear hs hb))
    refine bodyPost_ret (results_ct rfl _ _ (w.heap.size + 1) 29 #[.int .i64 0, .int .u64 0, .int .u64 0, .int .u64 0, .int .u64 0, .slice none 0 0, .slice none 0 0, .slice none 0 0, .slice none 0 0] (0, 0) _ rfl (nine Y.out _ _ _ _ _ _ _ _ _) Try.underlying29 rfl (by kernel_rfl)) rfl ?_
    exact ⟨_, rfl, HF.empty _ _, nine_below B.out (by omega) _ _ _ _ _ _ _ _ _⟩
  | some p =>
  rw [show widenR dd (openR h).1 = (p, true) from by unfold widenR; rw [hA]] at q0 ok0
  cases hB : widenW dd (openR h).2.1 with
  | none =>
    rw [show widenR dd (openR h).2.1 = ([], false) from by unfold widenR; rw [hB]] at q1
    simp only at q0 q1 ⊢
    have Q0 := Aside0.mk q0
    have Q1 := Aside0.mk q1
    clear q0 q1 ok0 ok1 rw0 rw1 hwl ht c1 hdd hA hB
    have X := Aside0.mk ((Blk.new w #[.int .i64 h.f0, .int .u64 h.f1, .int .u64 h.f2, .int .u64 h.f3, .int .u64 h.f4, .slice A5 h.f5.length c5, .slice A6 h.f6.length c6, .slice A7 h.f7.length c7, .slice A8 h.f8.length c8] 29).alloc (.cells #[.int .i64 0, .int .u64 0, .int .u64 0, .int .u64 0, .int .u64 0, .slice none 0 0, .slice none 0 0, .slice none 0 0, .slice none 0 0] 29)); have hx := fun i => X.out.cell i; have zx := fun i => blk_frozen X.out i
    have Y := Aside0.mk (Blk.at1 (w := w) (.cells #[.int .i64 h.f0, .int .u64 h.f1, .int .u64 h.f2, .int .u64 h.f3, .int .u64 h.f4, .slice A5 h.f5.length c5, .slice A6 h.f6.length c6, .slice A7 h.f7.length c7, .slice A8 h.f8.length c8] 29) #[.int .i64 0, .int .u64 0, .int .u64 0, .int .u64 0, .int .u64 0, .slice none 0 0, .slice none 0 0, .slice none 0 0, .slice none 0 0] 29); have hy := fun i => Y.out.cell i; have zy := fun i => blk_frozen Y.out i
    have B := Aside0.mk (below_alloc (below_alloc (Below.refl w.heap.size w) (.cells #[.int .i64 h.f0, .int .u64 h.f1, .int .u64 h.f2, .int .u64 h.f3, .int .u64 h.f4, .slice A5 h.f5.length c5, .slice A6 h.f6.length c6, .slice A7 h.f7.length c7, .slice A8 h.f8.length c8] 29)) (.cells #[.int .i64 0, .int .u64 0, .int .u64 0, .int .u64 0, .int .u64 0, .slice none 0 0, .slice none 0 0, .slice none 0 0, .slice none 0 0] 29))
    replace HV := Aside0.mk ((HV.out.below (below_alloc (Below.refl _ _) (.cells #[.int .i64 h.f0, .int .u64 h.f1, .int .u64 h.f2, .int .u64 h.f3, .int .u64 h.f4, .slice A5 h.f5.length c5, .slice A6 h.f6.length c6, .slice A7 h.f7.length c7, .slice A8 h.f8.length c8] 29))).below (below_alloc (Below.refl _ _) (.cells #[.int .i64 0, .int .u64 0, .int .u64 0, .int .u64 0, .int .u64 0, .slice none 0 0, .slice none 0 0, .slice none 0 0, .slice none 0 0] 29)))
    go_enter Try.func27, Try.ntmps27
    go_wp2_with (first | (go_at_call 78; (with_reducible refine (P0.out _ _ HV.out).mono ?_); rintro e W1 ⟨v0, rfl, hs, hb⟩; replace B := Aside0.mk (below_then B.out B.out.size hb); replace HV := Aside0.mk (HV.out.below hb); replace X := Aside0.mk (X.out.below hb); replace hx := fun i => X.out.cell i; replace zx := fun i => blk_frozen X.out i; replace Y := Aside0.mk (Y.out.below hb); replace hy := fun i => Y.out.cell i; replace zy := fun i => blk_frozen Y.out i; have S0 := Aside0.mk hs; clear P0; clear hs hb) | (go_at_call 78; (with_reducible refine (P1.out _ _ HV.out).mono ?_); rintro e W2 ⟨v1, rfl, hs, hb⟩; replace B := Aside0.mk (below_then B.out B.out.size hb); replace HV := Aside0.mk (HV.out.below hb); replace S0 := Aside0.mk (S0.out.below hb); replace X := Aside0.mk (X.out.below hb); replace hx := fun i => X.out.cell i; replace zx := fun i => blk_frozen X.out i; replace Y := Aside0.mk (Y.out.below hb); replace hy := fun i => Y.out.cell i; replace zy := fun i => blk_frozen Y.out i; have S1 := Aside0.mk hs; clear P1; clear hs hb) | (go_at_call 79; (with_reducible refine (WR.out _).mono ?_); rintro e W3 ⟨rfl, hb⟩; replace B := Aside0.mk (below_then B.out B.out.size hb); replace HV := Aside0.mk (HV.out.below hb); replace S0 := Aside0.mk (S0.out.below hb); replace S1 := Aside0.mk (S1.out.below hb); replace X := Aside0.mk (X.out.below hb); replace hx := fun i => X.out.cell i; replace zx := fun i => blk_frozen X.out i; replace Y := Aside0.mk (Y.out.below hb); replace hy := fun i => Y.out.cell i; replace zy := fun i => blk_frozen Y.out i; clear  hb) | (go_at_call 80; (with_reducible refine (Q0.out _ _ S0.out Y.out.lt1).mono ?_); rintro e W4 ⟨u0, rfl, hs, hb⟩; replace B := Aside0.mk (below_then B.out B.out.size hb); replace HV := Aside0.mk (HV.out.below hb); replace S0 := Aside0.mk (S0.out.below hb); replace S1 := Aside0.mk (S1.out.below hb); replace X := Aside0.mk (X.out.below hb); replace hx := fun i => X.out.cell i; replace zx := fun i => blk_frozen X.out i; replace Y := Aside0.mk (Y.out.below hb); replace hy := fun i => Y.out.cell i; replace zy := fun i => blk_frozen Y.out i; have U0 := Aside0.mk hs; clear Q0; clear hs hb) | (go_at_call 80; (with_reducible refine (Q1.out _ _ S1.out Y.out.lt1).mono ?_); rintro e W5 ⟨u1, rfl, hs, hb⟩; replace B := Aside0.mk (below_then B.out B.out.size hb); replace HV := Aside0.mk (HV.out.below hb); replace S0 := Aside0.mk (S0.out.below hb); replace S1 := Aside0.mk (S1.out.below hb); replace U0 := Aside0.mk (U0.out.below hb); replace X := Aside0.mk (X.out.below hb); replace hx := fun i => X.out.cell i; replace zx := fun i => blk_frozen X.out i; replace Y := Aside0.mk (Y.out.below hb); replace hy := fun i => Y.out.cell i; replace zy := fun i => blk_frozen Y.out i; have U1 := Aside0.mk hs; clear Q1; clear hs hb))
    refine bodyPost_ret (results_ct rfl _ _ (w.heap.size + 1) 29 #[.int .i64 0, .int .u64 0, .int .u64 0, .int .u64 0, .int .u64 0, .slice none 0 0, .slice none 0 0, .slice none 0 0, .slice none 0 0] (0, 0) _ rfl (nine Y.out _ _ _ _ _ _ _ _ _) Try.underlying29 rfl (by kernel_rfl)) rfl ?_
    exact ⟨_, rfl, HF.empty _ _, nine_below B.out (by omega) _ _ _ _ _ _ _ _ _⟩
  | some n =>
  rw [show widenR dd (openR h).2.1 = (n, true) from by unfold widenR; rw [hB]] at q1 ok1
  simp only at q0 q1 ok0 ok1 ⊢
  have h1 := without_c p (by have := ok0.1.len; omega)
  have h2 := without_c n (by have := ok1.1.len; omega)
  have hm := fun w v vp vn => make_c (lowH h tt) hwl _ _ (some0_wf ok0.1.wf) (some0_wf ok1.1.wf) w v vp vn
  generalize makeR (lowH h tt) (some0 p) (some0 n) = mr at *
  obtain ⟨mh, me⟩ := mr
  simp only at hm ⊢
  have Q0 := Aside0.mk q0
  have Q1 := Aside0.mk q1
  have H1 := Aside0.mk h1
  have H2 := Aside0.mk h2
  have HM := Aside0.mk hm
  clear q0 q1 ok0 ok1 rw0 rw1 hwl ht c1 h1 h2 hm hdd hA hB
  have X := Aside0.mk ((Blk.new w #[.int .i64 h.f0, .int .u64 h.f1, .int .u64 h.f2, .int .u64 h.f3, .int .u64 h.f4, .slice A5 h.f5.length c5, .slice A6 h.f6.length c6, .slice A7 h.f7.length c7, .slice A8 h.f8.length c8] 29).alloc (.cells #[.int .i64 0, .int .u64 0, .int .u64 0, .int .u64 0, .int .u64 0, .slice none 0 0, .slice none 0 0, .slice none 0 0, .slice none 0 0] 29)); have hx := fun i => X.out.cell i; have zx := fun i => blk_frozen X.out i
  have Y := Aside0.mk (Blk.at1 (w := w) (.cells #[.int .i64 h.f0, .int .u64 h.f1, .int .u64 h.f2, .int .u64 h.f3, .int .u64 h.f4, .slice A5 h.f5.length c5, .slice A6 h.f6.length c6, .slice A7 h.f7.length c7, .slice A8 h.f8.length c8] 29) #[.int .i64 0, .int .u64 0, .int .u64 0, .int .u64 0, .int .u64 0, .slice none 0 0, .slice none 0 0, .slice none 0 0, .slice none 0 0] 29); have hy := fun i => Y.out.cell i; have zy := fun i => blk_frozen Y.out i
  have B := Aside0.mk (below_alloc (below_alloc (Below.refl w.heap.size w) (.cells #[.int .i64 h.f0, .int .u64 h.f1, .int .u64 h.f2, .int .u64 h.f3, .int .u64 h.f4, .slice A5 h.f5.length c5, .slice A6 h.f6.length c6, .slice A7 h.f7.length c7, .slice A8 h.f8.length c8] 29)) (.cells #[.int .i64 0, .int .u64 0, .int .u64 0, .int .u64 0, .int .u64 0, .slice none 0 0, .slice none 0 0, .slice none 0 0, .slice none 0 0] 29))
  replace HV := Aside0.mk ((HV.out.below (below_alloc (Below.refl _ _) (.cells #[.int .i64 h.f0, .int .u64 h.f1, .int .u64 h.f2, .int .u64 h.f3, .int .u64 h.f4, .slice A5 h.f5.length c5, .slice A6 h.f6.length c6, .slice A7 h.f7.length c7, .slice A8 h.f8.length c8] 29))).below (below_alloc (Below.refl _ _) (.cells #[.int .i64 0, .int .u64 0, .int .u64 0, .int .u64 0, .int .u64 0, .slice none 0 0, .slice none 0 0, .slice none 0 0, .slice none 0 0] 29)))
  go_enter Try.func27, Try.ntmps27
  go_upto_region 12 with (first | (go_at_call 78; (with_reducible refine (P0.out _ _ HV.out).mono ?_); rintro e W1 ⟨v0, rfl, hs, hb⟩; replace B := Aside0.mk (below_then B.out B.out.size hb); replace HV := Aside0.mk (HV.out.below hb); replace X := Aside0.mk (X.out.below hb); replace hx := fun i => X.out.cell i; replace zx := fun i => blk_frozen X.out i; replace Y := Aside0.mk (Y.out.below hb); replace hy := fun i => Y.out.cell i; replace zy := fun i => blk_frozen Y.out i; have S0 := Aside0.mk hs; clear P0; clear hs hb) | (go_at_call 78; (with_reducible refine (P1.out _ _ HV.out).mono ?_); rintro e W2 ⟨v1, rfl, hs, hb⟩; replace B := Aside0.mk (below_then B.out B.out.size hb); replace HV := Aside0.mk (HV.out.below hb); replace S0 := Aside0.mk (S0.out.below hb); replace X := Aside0.mk (X.out.below hb); replace hx := fun i => X.out.cell i; replace zx := fun i => blk_frozen X.out i; replace Y := Aside0.mk (Y.out.below hb); replace hy := fun i => Y.out.cell i; replace zy := fun i => blk_frozen Y.out i; have S1 := Aside0.mk hs; clear P1; clear hs hb) | (go_at_call 79; (with_reducible refine (WR.out _).mono ?_); rintro e W3 ⟨rfl, hb⟩; replace B := Aside0.mk (below_then B.out B.out.size hb); replace HV := Aside0.mk (HV.out.below hb); replace S0 := Aside0.mk (S0.out.below hb); replace S1 := Aside0.mk (S1.out.below hb); replace X := Aside0.mk (X.out.below hb); replace hx := fun i => X.out.cell i; replace zx := fun i => blk_frozen X.out i; replace Y := Aside0.mk (Y.out.below hb); replace hy := fun i => Y.out.cell i; replace zy := fun i => blk_frozen Y.out i; clear  hb) | (go_at_call 80; (with_reducible refine (Q0.out _ _ S0.out Y.out.lt1).mono ?_); rintro e W4 ⟨u0, rfl, hs, hb⟩; replace B := Aside0.mk (below_then B.out B.out.size hb); replace HV := Aside0.mk (HV.out.below hb); replace S0 := Aside0.mk (S0.out.below hb); replace S1 := Aside0.mk (S1.out.below hb); replace X := Aside0.mk (X.out.below hb); replace hx := fun i => X.out.cell i; replace zx := fun i => blk_frozen X.out i; replace Y := Aside0.mk (Y.out.below hb); replace hy := fun i => Y.out.cell i; replace zy := fun i => blk_frozen Y.out i; have U0 := Aside0.mk hs; clear Q0; clear hs hb) | (go_at_call 80; (with_reducible refine (Q1.out _ _ S1.out Y.out.lt1).mono ?_); rintro e W5 ⟨u1, rfl, hs, hb⟩; replace B := Aside0.mk (below_then B.out B.out.size hb); replace HV := Aside0.mk (HV.out.below hb); replace S0 := Aside0.mk (S0.out.below hb); replace S1 := Aside0.mk (S1.out.below hb); replace U0 := Aside0.mk (U0.out.below hb); replace X := Aside0.mk (X.out.below hb); replace hx := fun i => X.out.cell i; replace zx := fun i => blk_frozen X.out i; replace Y := Aside0.mk (Y.out.below hb); replace hy := fun i => Y.out.cell i; replace zy := fun i => blk_frozen Y.out i; have U1 := Aside0.mk hs; clear Q1; clear hs hb))
  have hW2 := blk_lt Y.out
  have HX0 := blk_put X.out 0 (.int .i64 tt) rfl
  have HY0 := blk_put_ne' Y.out (show w.heap.size + 1 ≠ w.heap.size by omega) 0 (.int .i64 tt)
  have HB0 := B.out.setCell (p := ⟨w.heap.size, 0, none⟩) (Nat.le_refl _) (.int .i64 tt)
  have HO0 := And.intro ((U0.out.step (KA.set _ (by omega : w.heap.size < w.heap.size + 1 + 1) (i := 0) (.int .i64 tt))).now) ((U1.out.step (KA.set _ (by omega : w.heap.size < w.heap.size + 1 + 1) (i := 0) (.int .i64 tt))).now)
  clear hx zx hy zy X Y B HV S0 S1 U0 U1
  generalize (World.setCell _ ⟨w.heap.size, 0, none⟩ (.int .i64 tt)) = w1 at *
  have HX1 := Aside0.mk HX0
  have HY1 := Aside0.mk HY0
  have HB := Aside0.mk HB0
  have HO := Aside0.mk HO0
  have HVL := Aside0.mk (show HI w1 (.agg #[.int .i64 tt, .int .u64 h.f1, .int .u64 h.f2, .int .u64 h.f3, .int .u64 h.f4, .slice A5 h.f5.length c5, .slice A6 h.f6.length c6, .slice A7 h.f7.length c7, .slice A8 h.f8.length c8]) (lowH h tt) from HI.mk (h := lowH h tt) (s5.below HB0) (s6.below HB0) (s7.below HB0) (s8.below HB0))
  clear HX0 HY0 HB0 HO0 s5 s6 s7 s8
  have hfx := fun i => blk_cell HX1.out i; have hzx := fun i => blk_frozen HX1.out i; have hfy := fun i => blk_cell HY1.out i; have hzy := fun i => blk_frozen HY1.out i
  go_region_with (first | (go_at_call 71; (with_reducible refine (H1.out _ u0 (HO.out.1.below (below_drew (Below.refl _ _)))).mono ?_); rintro e w2 ⟨vp, rfl, hs, hb⟩; have HS2 := Aside0.mk hs; have HB2 := Aside0.mk (below_then (below_drew (Below.refl w1.heap.size w1)) (Nat.le_refl _) hb); have hX2 := fun i => blk_cell (blk_below HX1.out HB2.out) i; have hY2 := fun i => blk_cell (blk_below HY1.out HB2.out) i; have hZ2 := fun i => blk_frozen (blk_below HY1.out HB2.out) i; clear hs hb) | (go_at_call 71; (with_reducible refine (H2.out _ u1 (HO.out.2.below (below_drew (Below.refl _ _)))).mono ?_); rintro e w3 ⟨vn, rfl, hs, hb⟩; have HS3 := Aside0.mk hs; have HB3 := Aside0.mk (below_then (below_drew (Below.refl w1.heap.size w1)) (Nat.le_refl _) hb); have hX3 := fun i => blk_cell (blk_below HX1.out HB3.out) i; have hY3 := fun i => blk_cell (blk_below HY1.out HB3.out) i; have hZ3 := fun i => blk_frozen (blk_below HY1.out HB3.out) i; clear hs hb) | (go_at_call 71; (with_reducible refine (H2.out w2 u1 (HO.out.2.below HB2.out)).mono ?_); rintro e w4 ⟨vn, rfl, hs, hb⟩; have HS4 := Aside0.mk (And.intro (HS2.out.below hb) hs); have HB4 := Aside0.mk (below_then HB2.out HB2.out.size hb); have hX4 := fun i => blk_cell (blk_below HX1.out HB4.out) i; have hY4 := fun i => blk_cell (blk_below HY1.out HB4.out) i; have hZ4 := fun i => blk_frozen (blk_below HY1.out HB4.out) i; clear hs hb) | (go_at_call 71; (with_reducible refine (H1.out w3 u0 (HO.out.1.below HB3.out)).mono ?_); rintro e w4 ⟨vp, rfl, hs, hb⟩; have HS4 := Aside0.mk (And.intro hs (HS3.out.below hb)); have HB4 := Aside0.mk (below_then HB3.out HB3.out.size hb); have hX4 := fun i => blk_cell (blk_below HX1.out HB4.out) i; have hY4 := fun i => blk_cell (blk_below HY1.out HB4.out) i; have hZ4 := fun i => blk_frozen (blk_below HY1.out HB4.out) i; clear hs hb) | (go_at_call 64; (with_reducible refine (HM.out w4 _ vp vn (HVL.out.below HB4.out) HS4.out.1 HS4.out.2).mono ?_); rintro e w5 ⟨v5, rfl, hs, hb⟩; have HB5 := Aside0.mk (below_then (below_then HB.out HB.out.size HB4.out) (below_then HB.out HB.out.size HB4.out).size hb); have HI5 := Aside0.mk hs; obtain ⟨D5, g5, D6, g6, D7, g7, D8, g8, e5⟩ := hs.open_; subst e5; have hX5 := fun i => blk_cell (blk_below (blk_below HX1.out HB4.out) hb) i; have HY5 := Aside0.mk (blk_below (blk_below HY1.out HB4.out) hb); have hY5 := fun i => blk_cell HY5.out i; have hZ5 := fun i => blk_frozen HY5.out i; clear hs hb))
  all_goals (go_wp2; have hsz := blk_lt HY1.out; have hsz4 := HB4.out.size; refine bodyPost_ret (results_ct rfl _ _ (w.heap.size + 1) 29 #[.int .i64 mh.f0, .int .u64 mh.f1, .int .u64 mh.f2, .int .u64 mh.f3, .int .u64 mh.f4, .slice D5 mh.f5.length g5, .slice D6 mh.f6.length g6, .slice D7 mh.f7.length g7, .slice D8 mh.f8.length g8] (0, 0) _ rfl (nine HY5.out _ _ _ _ _ _ _ _ _) Try.underlying29 rfl (by kernel_rfl)) rfl ?_; exact ⟨_, rfl, (HI5.out.step (nine_ka (KA.refl _ _) (by omega) _ _ _ _ _ _ _ _ _)).lower (by omega), nine_below HB5.out (by omega) _ _ _ _ _ _ _ _ _⟩)
end Go.Proofs.Ytooiccpmngmapaa.P
namespace Go.Proofs.Ytooiccpmngmapaa.P
open Go.RowKit Go.Proofs.YtooiccpmngmapaaW.PrintWords Go.Proofs.YtooiccpmngmapaaW.PrintLast Go.Proofs.YtooiccpmngmapaaW.PrintMore
attribute [local go_sem] max2_int min2_int max_two min_two max_three min_three max_four min_four
attribute [local go_sem high] eqA127
def tidepolelaw25_few.l0 : Nat → Int → List (S113) → Int → Int → Option (Bool)
 | 0, _, _, _, _ => none
 | k + 1, x3, x6, x7, x8 => if x8 < x7 then (if 0 ≤ x8 then (if x8 < (x6.length : Int) then (if ((rd_T113 x6 x8).f1) > 0 then (if (wrap64 ((wrap64 (x3 + (wrap64 (1 + (wrap64 (Int.tdiv (mn ((rd_T113 x6 x8).f1) 5000) 10)))))) + 1)) > 400 then (some false) else (tidepolelaw25_few.l0 k (wrap64 ((wrap64 (x3 + (wrap64 (1 + (wrap64 (Int.tdiv (mn ((rd_T113 x6 x8).f1) 5000) 10)))))) + 1)) x6 x7 (wrap64 (x8 + 1)))) else (if (wrap64 (x3 + 1)) > 400 then (some false) else (tidepolelaw25_few.l0 k (wrap64 (x3 + 1)) x6 x7 (wrap64 (x8 + 1))))) else (none)) else (none)) else (some true)
def tidepolelaw25_few.f (k : Nat) (l0 : List (S113)) : Option (Bool) := tidepolelaw25_few.l0 k 0 l0 (l0.length : Int) 0
set_option maxHeartbeats 8000000 in
set_option maxRecDepth 100000 in
theorem tidepolelaw25_few.calls (k : Nat) (A0 : Option Addr) (c0 : Nat) (l0 : List (S113)) (r : Bool) (w : World) (hr0 : Kd.C k113 w A0 l0.length l0) (hc0 : l0.length ≤ c0) (h : tidepolelaw25_few.f k l0 = some r) :
  Calls Try.prog 72 #[.slice A0 l0.length c0] w fun e w' => e = .returned (.bool r) ∧ Below w.heap.size w w' := by
 have hu113 := Try.underlying113
 have HR0 := Aside0.mk hr0
 have HC0 := Aside0.mk hc0
 clear hr0 hc0
 have HB := Aside0.mk (Below.refl w.heap.size w)
 have H : (tidepolelaw25_few.l0 k 0 l0 (l0.length : Int) 0) = some r := h
 clear h
 have H' := Aside0.mk H
 clear H
 go_enter Try.func72, Try.ntmps72
 go_wp2
 go_loopg [3, 8] k (fun kq v3 v8 w' => ∃ (x3_1 : Int) (x8_1 : Int), v3 = .int .i64 x3_1 ∧ v8 = .int .i64 x8_1 ∧ Aside0 (tidepolelaw25_few.l0 kq x3_1 l0 (l0.length : Int) x8_1 = some r) ∧ Aside0 (kq ≤ k) ∧ Aside0 (Below w.heap.size w w'))
 case atStart => exact ⟨(0), (0), (by first | rfl | (simp; done) | (simp [*]; done)), (by first | rfl | (simp; done) | (simp [*]; done)), H', ⟨Nat.le_refl _⟩, ⟨by repeat (first | (with_reducible first | exact HB.out | apply below_alloc | apply pw_below_drewN | apply below_drew1) | exact HB.out)⟩⟩
 case round =>
  clear H'
  obtain ⟨x3_1, x8_1, rfl, rfl, HA, HK1, HB⟩ := hrel
  cases gk with
  | zero => exact absurd HA.out (by simp [tidepolelaw25_few.l0])
  | succ k1 =>
   have H := HA.out
   clear HA
   simp only [tidepolelaw25_few.l0] at H
   by_cases c2 : x8_1 < (l0.length : Int)
   ·rw [if_pos c2] at H
    have c2b0 : decide (x8_1 < (l0.length : Int)) = true := decide_eq_true c2
    clear c2
    by_cases c3 : 0 ≤ x8_1
    ·rw [if_pos c3] at H
     have c3b0 : decide (0 ≤ x8_1) = true := decide_eq_true c3
     clear c3
     by_cases c4 : x8_1 < (l0.length : Int)
     ·rw [if_pos c4] at H
      have c4b0 : decide (x8_1 < (l0.length : Int)) = true := decide_eq_true c4
      clear c4
      by_cases c5 : ((rd_T113 l0 x8_1).f1) > 0
      ·rw [if_pos c5] at H
       have c5b0 : decide (0 < ((rd_T113 l0 x8_1).f1)) = true := decide_eq_true c5
       clear c5
       obtain ⟨ji6, hji6⟩ : ∃ j_ : Int, (mn ((rd_T113 l0 x8_1).f1) 5000) = j_ := ⟨_, rfl⟩
       replace H : (if (wrap64 ((wrap64 (x3_1 + (wrap64 (1 + (wrap64 (Int.tdiv (ji6) 10)))))) + 1)) > 400 then (some false) else (tidepolelaw25_few.l0 k1 (wrap64 ((wrap64 (x3_1 + (wrap64 (1 + (wrap64 (Int.tdiv (ji6) 10)))))) + 1)) l0 (l0.length : Int) (wrap64 (x8_1 + 1)))) = some r := by first | (rw [hji6] at H; exact H) | (simp only [hji6] at H ⊢; exact H)
       have hji6_ : (if 5000 < ((rd_T113 l0 x8_1).f1) then 5000 else ((rd_T113 l0 x8_1).f1)) = ji6 := hji6
       by_cases c7 : (wrap64 ((wrap64 (x3_1 + (wrap64 (1 + (wrap64 (Int.tdiv (ji6) 10)))))) + 1)) > 400
       ·rw [if_pos c7] at H
        have c7b0 : decide (400 < (wrap64 ((wrap64 (x3_1 + (wrap64 (1 + (wrap64 (Int.tdiv (ji6) 10)))))) + 1))) = true := decide_eq_true c7
        clear c7
        obtain rfl := Option.some.inj H
        have p101 : 0 ≤ (x8_1 : Int) := of_decide_eq_true (by assumption)
        have q101 : x8_1 < (l0.length : Int) := of_decide_eq_true (by assumption)
        obtain ⟨ad101, e101, hx101_0, hx101_1⟩ := at_T113 HR0.out x8_1 p101 q101
        cases e101
        replace hx101_0 := (HB.out.cell (World.block_lt_of_cell? w _ hx101_0)).trans hx101_0
        replace hx101_1 := (HB.out.cell (World.block_lt_of_cell? w _ hx101_1)).trans hx101_1
        replace p101 := eq_true p101
        replace q101 := eq_true q101
        go_wp2_with (first | ((with_reducible refine gate_dst (N := 5) rfl ?_); refine box_event ?hg (N := 5) ?hd (cs := #[.int .i64 0, .int .i64 0]) (t := 113) ?hr ?_; (case hd => rfl); (case hg => rfl); (case hr => first | (go_simp; done) | (go_simp; rfl)); intro gb102 hg w8 hbox hb; have BK102 := Aside0.mk (hbox); have GW102 := Aside0.mk ((by rw [hg]; exact (below_size (below_u HB.out)) : w.heap.size ≤ gb102)); have GE102 := Aside0.mk ((by rw [hg]; exact (below_size (below_u HB.out)) : w.heap.size ≤ gb102)); replace HB := Aside0.mk (below_step (below_u HB.out) hb); clear hb hbox hg; have hcz9_0 := blk_cell BK102.out; have hfz9_0 := blk_frozen BK102.out))
        go_ret
        exact ⟨by first | rfl | (simp [errW_none, errW_some] <;> rfl) | (simp only [← hji6]; first | rfl | (simp [errW_none, errW_some] <;> rfl)) | (simp [*, errW_none, errW_some] <;> rfl), by repeat (first | (with_reducible first | exact HB.out | apply below_alloc | apply pw_below_drewN | apply below_drew1 | refine below_set ?_ GE102.out) | exact HB.out)⟩
       rw [if_neg c7] at H
       have c7b0 : decide (400 < (wrap64 ((wrap64 (x3_1 + (wrap64 (1 + (wrap64 (Int.tdiv (ji6) 10)))))) + 1))) = false := decide_eq_false c7
       clear c7
       have H' := Aside0.mk H
       clear H
       have p101 : 0 ≤ (x8_1 : Int) := of_decide_eq_true (by assumption)
       have q101 : x8_1 < (l0.length : Int) := of_decide_eq_true (by assumption)
       obtain ⟨ad101, e101, hx101_0, hx101_1⟩ := at_T113 HR0.out x8_1 p101 q101
       cases e101
       replace hx101_0 := (HB.out.cell (World.block_lt_of_cell? w _ hx101_0)).trans hx101_0
       replace hx101_1 := (HB.out.cell (World.block_lt_of_cell? w _ hx101_1)).trans hx101_1
       replace p101 := eq_true p101
       replace q101 := eq_true q101
       go_wp2_with (first | ((with_reducible refine gate_dst (N := 5) rfl ?_); refine box_event ?hg (N := 5) ?hd (cs := #[.int .i64 0, .int .i64 0]) (t := 113) ?hr ?_; (case hd => rfl); (case hg => rfl); (case hr => first | (go_simp; done) | (go_simp; rfl)); intro gb102 hg w10 hbox hb; have BK102 := Aside0.mk (hbox); have GW102 := Aside0.mk ((by rw [hg]; exact (below_size (below_u HB.out)) : w.heap.size ≤ gb102)); have GE102 := Aside0.mk ((by rw [hg]; exact (below_size (below_u HB.out)) : w.heap.size ≤ gb102)); replace HB := Aside0.mk (below_step (below_u HB.out) hb); clear hb hbox hg; have hcz11_0 := blk_cell BK102.out; have hfz11_0 := blk_frozen BK102.out))
       go_roundg k1
       case measure => have := HK1.out; omega
       case rel => exact ⟨(wrap64 ((wrap64 (x3_1 + (wrap64 (1 + (wrap64 (Int.tdiv (ji6) 10)))))) + 1)), (wrap64 (x8_1 + 1)), (by first | rfl | (simp; done) | (simp only [← hji6] <;> (first | rfl | simp)) | (simp [*]; done)), (by first | rfl | (simp; done) | (simp [*]; done)), H', ⟨by have := HK1.out; omega⟩, ⟨by repeat (first | (with_reducible first | exact HB.out | apply below_alloc | apply pw_below_drewN | apply below_drew1 | refine below_set ?_ GE102.out) | exact HB.out)⟩⟩
      rw [if_neg c5] at H
      have c5b0 : decide (0 < ((rd_T113 l0 x8_1).f1)) = false := decide_eq_false c5
      clear c5
      by_cases c12 : (wrap64 (x3_1 + 1)) > 400
      ·rw [if_pos c12] at H
       have c12b0 : decide (400 < (wrap64 (x3_1 + 1))) = true := decide_eq_true c12
       clear c12
       obtain rfl := Option.some.inj H
       have p101 : 0 ≤ (x8_1 : Int) := of_decide_eq_true (by assumption)
       have q101 : x8_1 < (l0.length : Int) := of_decide_eq_true (by assumption)
       obtain ⟨ad101, e101, hx101_0, hx101_1⟩ := at_T113 HR0.out x8_1 p101 q101
       cases e101
       replace hx101_0 := (HB.out.cell (World.block_lt_of_cell? w _ hx101_0)).trans hx101_0
       replace hx101_1 := (HB.out.cell (World.block_lt_of_cell? w _ hx101_1)).trans hx101_1
       replace p101 := eq_true p101
       replace q101 := eq_true q101
       go_wp2_with (first | ((with_reducible refine gate_dst (N := 5) rfl ?_); refine box_event ?hg (N := 5) ?hd (cs := #[.int .i64 0, .int .i64 0]) (t := 113) ?hr ?_; (case hd => rfl); (case hg => rfl); (case hr => first | (go_simp; done) | (go_simp; rfl)); intro gb102 hg w13 hbox hb; have BK102 := Aside0.mk (hbox); have GW102 := Aside0.mk ((by rw [hg]; exact (below_size (below_u HB.out)) : w.heap.size ≤ gb102)); have GE102 := Aside0.mk ((by rw [hg]; exact (below_size (below_u HB.out)) : w.heap.size ≤ gb102)); replace HB := Aside0.mk (below_step (below_u HB.out) hb); clear hb hbox hg; have hcz14_0 := blk_cell BK102.out; have hfz14_0 := blk_frozen BK102.out))
       go_ret
       exact ⟨by first | rfl | (simp [errW_none, errW_some] <;> rfl) | (simp [*, errW_none, errW_some] <;> rfl), by repeat (first | (with_reducible first | exact HB.out | apply below_alloc | apply pw_below_drewN | apply below_drew1 | refine below_set ?_ GE102.out) | exact HB.out)⟩
      rw [if_neg c12] at H
      have c12b0 : decide (400 < (wrap64 (x3_1 + 1))) = false := decide_eq_false c12
      clear c12
      have H' := Aside0.mk H
      clear H
      have p101 : 0 ≤ (x8_1 : Int) := of_decide_eq_true (by assumption)
      have q101 : x8_1 < (l0.length : Int) := of_decide_eq_true (by assumption)
      obtain ⟨ad101, e101, hx101_0, hx101_1⟩ := at_T113 HR0.out x8_1 p101 q101
      cases e101
      replace hx101_0 := (HB.out.cell (World.block_lt_of_cell? w _ hx101_0)).trans hx101_0
      replace hx101_1 := (HB.out.cell (World.block_lt_of_cell? w _ hx101_1)).trans hx101_1
      replace p101 := eq_true p101
      replace q101 := eq_true q101
      go_wp2_with (first | ((with_reducible refine gate_dst (N := 5) rfl ?_); refine box_event ?hg (N := 5) ?hd (cs := #[.int .i64 0, .int .i64 0]) (t := 113) ?hr ?_; (case hd => rfl); (case hg => rfl); (case hr => first | (go_simp; done) | (go_simp; rfl)); intro gb102 hg w15 hbox hb; have BK102 := Aside0.mk (hbox); have GW102 := Aside0.mk ((by rw [hg]; exact (below_size (below_u HB.out)) : w.heap.size ≤ gb102)); have GE102 := Aside0.mk ((by rw [hg]; exact (below_size (below_u HB.out)) : w.heap.size ≤ gb102)); replace HB := Aside0.mk (below_step (below_u HB.out) hb); clear hb hbox hg; have hcz16_0 := blk_cell BK102.out; have hfz16_0 := blk_frozen BK102.out))
      go_roundg k1
      case measure => have := HK1.out; omega
      case rel => exact ⟨(wrap64 (x3_1 + 1)), (wrap64 (x8_1 + 1)), (by first | rfl | (simp; done) | (simp [*]; done)), (by first | rfl | (simp; done) | (simp [*]; done)), H', ⟨by have := HK1.out; omega⟩, ⟨by repeat (first | (with_reducible first | exact HB.out | apply below_alloc | apply pw_below_drewN | apply below_drew1 | refine below_set ?_ GE102.out) | exact HB.out)⟩⟩
     rw [if_neg c4] at H
     exact absurd H (by simp)
    rw [if_neg c3] at H
    exact absurd H (by simp)
   rw [if_neg c2] at H
   have c2b0 : decide (x8_1 < (l0.length : Int)) = false := decide_eq_false c2
   clear c2
   obtain rfl := Option.some.inj H
   go_wp2
   go_ret
   exact ⟨by first | rfl | (simp [errW_none, errW_some] <;> rfl) | (simp [*, errW_none, errW_some] <;> rfl), by repeat (first | (with_reducible first | exact HB.out | apply below_alloc | apply pw_below_drewN | apply below_drew1) | exact HB.out)⟩
def tidepolelaw25_one.f  : Option (Int × Int × Int × Int × Int × (List (S113)) × (List (S113)) × List Int × List Int) := some (1, 0, 0, 5, 0, (([(⟨3, 3⟩ : S113)] : List (S113))), ([] : List (S113)), (([1, (-1), 4] : List Int)), ([] : List Int))
set_option maxHeartbeats 8000000 in
set_option maxRecDepth 100000 in
theorem tidepolelaw25_one.calls  (r1 : Int) (r2 : Int) (r3 : Int) (r4 : Int) (r5 : Int) (r6 : List (S113)) (r7 : List (S113)) (r8 : List Int) (r9 : List Int) (w : World) (h : tidepolelaw25_one.f  = some (r1, r2, r3, r4, r5, r6, r7, r8, r9)) :
  Calls Try.prog 73 #[] w fun e w' => ∃ v5_ v6_ v7_ v8_ : Value, e = .returned (.agg #[.int .i64 r1, .int .u64 r2, .int .u64 r3, .int .u64 r4, .int .u64 r5, v5_, v6_, v7_, v8_]) ∧ Kd.R k113 113 w' w.heap.size (fun k_ => some k_ ≠ (v6_ : Value).ownBlock) v5_ r6 ∧ Kd.R k113 113 w' w.heap.size (fun k_ => some k_ ≠ (v5_ : Value).ownBlock) v6_ r7 ∧ Kd.R (Kd.int .i64) 2 w' w.heap.size (fun k_ => some k_ ≠ (v8_ : Value).ownBlock) v7_ r8 ∧ Kd.R (Kd.int .i64) 2 w' w.heap.size (fun k_ => some k_ ≠ (v7_ : Value).ownBlock) v8_ r9 ∧ Below w.heap.size w w' := by
 have hu29 := Try.underlying29
 have hu113 := Try.underlying113
 have HB := Aside0.mk (Below.refl w.heap.size w)
 have H : (some (1, 0, 0, 5, 0, (([(⟨3, 3⟩ : S113)] : List (S113))), ([] : List (S113)), (([1, (-1), 4] : List Int)), ([] : List Int))) = some (r1, r2, r3, r4, r5, r6, r7, r8, r9) := h
 clear h
 obtain ⟨y102, hy102⟩ : ∃ y_ : List (S113), y_ = (([(⟨3, 3⟩ : S113)] : List (S113))) := ⟨_, rfl⟩
 replace H : (some (1, 0, 0, 5, 0, y102, ([] : List (S113)), (([1, (-1), 4] : List Int)), ([] : List Int))) = some (r1, r2, r3, r4, r5, r6, r7, r8, r9) := by first | (rw [hy102]; with_reducible exact H) | (have H2_ := (Option.bind_some _ _).symm.trans H; rw [hy102]; with_reducible exact H2_) | (have H2_ := (Option.bind_some _ _).symm.trans H; with_reducible exact H2_) | with_reducible exact H | (rw [hy102]; exact H) | exact H
 have Ny102 := Aside0.mk hy102
 clear hy102
 obtain ⟨y105, hy105⟩ : ∃ y_ : List Int, y_ = (([1, (-1), 4] : List Int)) := ⟨_, rfl⟩
 replace H : (some (1, 0, 0, 5, 0, y102, ([] : List (S113)), y105, ([] : List Int))) = some (r1, r2, r3, r4, r5, r6, r7, r8, r9) := by first | (rw [hy105]; with_reducible exact H) | (have H2_ := (Option.bind_some _ _).symm.trans H; rw [hy105]; with_reducible exact H2_) | (have H2_ := (Option.bind_some _ _).symm.trans H; with_reducible exact H2_) | with_reducible exact H | (rw [hy105]; exact H) | exact H
 have Ny105 := Aside0.mk hy105
 clear hy105
 simp only [Option.some.injEq, Prod.mk.injEq] at H
 obtain ⟨rfl, rfl, rfl, rfl, rfl, rfl, rfl, rfl, rfl⟩ := H
 go_enter Try.func73, Try.ntmps73
 go_wp2_with (first | ((with_reducible refine gate_dst (N := 0) rfl ?_); refine box_event ?hg (N := 0) ?hd (cs := #[.int .i64 0, .int .u64 0, .int .u64 0, .int .u64 0, .int .u64 0, .slice none 0 0, .slice none 0 0, .slice none 0 0, .slice none 0 0]) (t := 29) ?hr ?_; (case hd => rfl); (case hg => rfl); (case hr => first | (go_simp; done) | (go_simp; rfl)); intro gb101 hg w1 hbox hb; have BK101 := Aside0.mk (hbox); have GW101 := Aside0.mk ((by rw [hg]; exact (below_size (below_u HB.out)) : w.heap.size ≤ gb101)); have GE101 := Aside0.mk ((by rw [hg]; exact (below_size (below_u HB.out)) : w.heap.size ≤ gb101)); replace HB := Aside0.mk (below_step (below_u HB.out) hb); clear hb hbox hg) | ((with_reducible refine gate_dst (N := 2) rfl ?_); refine Kd.R_lit k113 _ 113 ?hg (N := 2) ?hd (xs := ([(⟨3, 3⟩ : S113)] : List (S113))) (inner := [.int .i64 3, .int .i64 3]) (ok := fun _ => True) (okp := fun _ => True) ?hr ?hp (fun _ hk => hk) trivial (Below.refl _ _) (Nat.le_refl _) (by simp) ?_; (case hd => rfl); (case hg => rfl); (case hr => first | (go_simp; done) | (go_simp; rfl)); (case hp => exact (Reps.c2 (show Kd.M k113 _ _ _ (⟨3, 3⟩ : S113) [.int .i64 3, .int .i64 3] from (k113_mkM _ _ _ (⟨3, 3⟩ : S113) )) (Reps.none _ _))); intro v103 w2 ho3 hb hg_ hnew_; clear hg_ hnew_; (first | rw [← Ny102.out] at ho3 | (simp only [Int.reduceToNat] at ho3; rw [← Ny102.out] at ho3)); have HO104 := Aside0.mk (Kd.R_lower ho3 (below_size (by repeat (first | (with_reducible first | exact HB.out | refine below_q ?_ | refine below_set ?_ GE101.out) | exact HB.out)))); replace BK101 := Aside0.mk (blk_ub BK101.out hb); replace HB := Aside0.mk (below_step (by repeat (first | (with_reducible first | exact HB.out | refine below_q ?_ | refine below_set ?_ GE101.out) | exact HB.out)) hb); clear hb ho3) | ((with_reducible refine gate_dst (N := 3) rfl ?_); refine Kd.R_lit (Kd.int .i64) _ 2 ?hg (N := 3) ?hd (xs := ([1, (-1), 4] : List Int)) (inner := [.int .i64 1, .int .i64 (-1), .int .i64 4]) (ok := fun _ => True) (okp := fun _ => True) ?hr ?hp (fun _ hk => hk) trivial (Below.refl _ _) (Nat.le_refl _) (by simp) ?_; (case hd => rfl); (case hg => rfl); (case hr => first | (go_simp; done) | (go_simp; rfl)); (case hp => exact (Reps.one (show Kd.M (Kd.int .i64) _ _ _ 1 [.int .i64 1] from rfl) (Reps.one (show Kd.M (Kd.int .i64) _ _ _ (-1) [.int .i64 (-1)] from rfl) (Reps.one (show Kd.M (Kd.int .i64) _ _ _ 4 [.int .i64 4] from rfl) (Reps.none _ _))))); intro v106 w4 ho5 hb hg_ hnew_; clear hg_ hnew_; (first | rw [← Ny105.out] at ho5 | (simp only [Int.reduceToNat] at ho5; rw [← Ny105.out] at ho5)); have HO107 := Aside0.mk (Kd.R_lower ho5 (below_size (by repeat (first | (with_reducible first | exact HB.out | refine below_q ?_ | refine below_set ?_ GE101.out) | exact HB.out)))); replace HO104 := Aside0.mk (Kd.R_ub HO104.out hb); replace BK101 := Aside0.mk (blk_ub BK101.out hb); replace HB := Aside0.mk (below_step (by repeat (first | (with_reducible first | exact HB.out | refine below_q ?_ | refine below_set ?_ GE101.out) | exact HB.out)) hb); clear hb ho5; obtain ⟨Ao6, co6, eo6⟩ := Kd.R_slice HO107.out; subst eo6; obtain ⟨Ao7, co7, eo7⟩ := Kd.R_slice HO104.out; subst eo7; have hcz8_0 := blk_cell BK101.out; have hfz8_0 := blk_frozen BK101.out))
 refine bodyPost_ret (results_cell_row rfl _ _ gb101 29 #[.int .i64 1, .int .u64 0, .int .u64 0, .int .u64 5, .int .u64 0, .slice Ao7 y102.length co7, .slice none 0 0, .slice Ao6 y105.length co6, .slice none 0 0] (0, 0) _ rfl (by (repeat with_reducible refine blk_q ?_); refine blk_put (cs := #[.int .i64 1, .int .u64 0, .int .u64 0, .int .u64 5, .int .u64 0, .slice Ao7 y102.length co7, .slice none 0 0, .slice Ao6 y105.length co6, .slice none 0 0]) ?_ 8 _ rfl; (repeat with_reducible refine blk_q ?_); refine blk_put (cs := #[.int .i64 1, .int .u64 0, .int .u64 0, .int .u64 5, .int .u64 0, .slice Ao7 y102.length co7, .slice none 0 0, .slice none 0 0, .slice none 0 0]) ?_ 7 _ rfl; (repeat with_reducible refine blk_q ?_); refine blk_put (cs := #[.int .i64 1, .int .u64 0, .int .u64 0, .int .u64 5, .int .u64 0, .slice Ao7 y102.length co7, .slice none 0 0, .slice none 0 0, .slice none 0 0]) ?_ 6 _ rfl; (repeat with_reducible refine blk_q ?_); refine blk_put (cs := #[.int .i64 1, .int .u64 0, .int .u64 0, .int .u64 5, .int .u64 0, .slice none 0 0, .slice none 0 0, .slice none 0 0, .slice none 0 0]) ?_ 5 _ rfl; (repeat with_reducible refine blk_q ?_); refine blk_put (cs := #[.int .i64 1, .int .u64 0, .int .u64 0, .int .u64 5, .int .u64 0, .slice none 0 0, .slice none 0 0, .slice none 0 0, .slice none 0 0]) ?_ 4 _ rfl; (repeat with_reducible refine blk_q ?_); refine blk_put (cs := #[.int .i64 1, .int .u64 0, .int .u64 0, .int .u64 0, .int .u64 0, .slice none 0 0, .slice none 0 0, .slice none 0 0, .slice none 0 0]) ?_ 3 _ rfl; (repeat with_reducible refine blk_q ?_); refine blk_put (cs := #[.int .i64 1, .int .u64 0, .int .u64 0, .int .u64 0, .int .u64 0, .slice none 0 0, .slice none 0 0, .slice none 0 0, .slice none 0 0]) ?_ 2 _ rfl; (repeat with_reducible refine blk_q ?_); refine blk_put (cs := #[.int .i64 1, .int .u64 0, .int .u64 0, .int .u64 0, .int .u64 0, .slice none 0 0, .slice none 0 0, .slice none 0 0, .slice none 0 0]) ?_ 1 _ rfl; (repeat with_reducible refine blk_q ?_); refine blk_put (cs := #[.int .i64 0, .int .u64 0, .int .u64 0, .int .u64 0, .int .u64 0, .slice none 0 0, .slice none 0 0, .slice none 0 0, .slice none 0 0]) ?_ 0 _ rfl; (repeat with_reducible refine blk_q ?_); exact BK101.out) Try.underlying29 rfl (by kernel_rfl)) rfl ?_
 exact ⟨_, _, _, _, by first | rfl | (simp [errW_none, errW_some] <;> rfl) | (simp [*, errW_none, errW_some] <;> rfl), by (repeat with_reducible refine Kd.R_q ?_); exact Kd.R_mono (Kd.R_far (p := ⟨gb101, 8, none⟩) (Kd.R_far (p := ⟨gb101, 7, none⟩) (Kd.R_far (p := ⟨gb101, 6, none⟩) (Kd.R_far (p := ⟨gb101, 5, none⟩) (Kd.R_far (p := ⟨gb101, 4, none⟩) (Kd.R_far (p := ⟨gb101, 3, none⟩) (Kd.R_far (p := ⟨gb101, 2, none⟩) (Kd.R_far (p := ⟨gb101, 1, none⟩) (Kd.R_far (p := ⟨gb101, 0, none⟩) (Kd.R_types HO104.out BK101.out (by decide)) (fun _ hk => hk.2) (.int .i64 1)) (fun _ hk => hk.2) (.int .u64 0)) (fun _ hk => hk.2) (.int .u64 0)) (fun _ hk => hk.2) (.int .u64 5)) (fun _ hk => hk.2) (.int .u64 0)) (fun _ hk => hk.2) (.slice Ao7 y102.length co7)) (fun _ hk => hk.2) (.slice none 0 0)) (fun _ hk => hk.2) (.slice Ao6 y105.length co6)) (fun _ hk => hk.2) (.slice none 0 0)) (fun _ hk => (by simp [Value.ownBlock])), by first | exact Kd.R_nil _ _ _ _ _ | exact Kd.N_nil _ _ _ _ _ | exact Kd.V_nil _ _ _ _ _ | exact Kd.Q_nil _ _ _ _ _ | exact Kd.S_nil _ _ _ _ _, by (repeat with_reducible refine Kd.R_q ?_); exact Kd.R_mono (Kd.R_far (p := ⟨gb101, 8, none⟩) (Kd.R_far (p := ⟨gb101, 7, none⟩) (Kd.R_far (p := ⟨gb101, 6, none⟩) (Kd.R_far (p := ⟨gb101, 5, none⟩) (Kd.R_far (p := ⟨gb101, 4, none⟩) (Kd.R_far (p := ⟨gb101, 3, none⟩) (Kd.R_far (p := ⟨gb101, 2, none⟩) (Kd.R_far (p := ⟨gb101, 1, none⟩) (Kd.R_far (p := ⟨gb101, 0, none⟩) (Kd.R_types HO107.out BK101.out (by decide)) (fun _ hk => hk.2) (.int .i64 1)) (fun _ hk => hk.2) (.int .u64 0)) (fun _ hk => hk.2) (.int .u64 0)) (fun _ hk => hk.2) (.int .u64 5)) (fun _ hk => hk.2) (.int .u64 0)) (fun _ hk => hk.2) (.slice Ao7 y102.length co7)) (fun _ hk => hk.2) (.slice none 0 0)) (fun _ hk => hk.2) (.slice Ao6 y105.length co6)) (fun _ hk => hk.2) (.slice none 0 0)) (fun _ hk => (by simp [Value.ownBlock])), by first | exact Kd.R_nil _ _ _ _ _ | exact Kd.N_nil _ _ _ _ _ | exact Kd.V_nil _ _ _ _ _ | exact Kd.Q_nil _ _ _ _ _ | exact Kd.S_nil _ _ _ _ _, by repeat (first | (with_reducible first | exact HB.out | apply below_alloc | apply pw_below_drewN | apply below_drew1 | refine below_set ?_ GE101.out) | exact HB.out)⟩
def tidepolelaw25_spans.l0 : Nat → List (S127) → List (S113) → Int → Int → Option ((List (S127)))
 | 0, _, _, _, _ => none
 | k + 1, x3, x6, x7, x8 => if x8 < x7 then (if 0 ≤ x8 then (if x8 < (x6.length : Int) then (if x3.length < 8796093022208 then (tidepolelaw25_spans.l0 k (x3 ++ [(⟨(rd_T113 x6 x8).f0, (rd_T113 x6 x8).f1⟩ : S127)]) x6 x7 (wrap64 (x8 + 1))) else (none)) else (none)) else (none)) else (some x3)
def tidepolelaw25_spans.f (k : Nat) (l0 : List (S113)) : Option ((List (S127))) := tidepolelaw25_spans.l0 k ([] : List (S127)) l0 (l0.length : Int) 0
set_option maxHeartbeats 8000000 in
set_option maxRecDepth 100000 in
theorem tidepolelaw25_spans.calls (k : Nat) (A0 : Option Addr) (c0 : Nat) (l0 : List (S113)) (r : List (S127)) (w : World) (hr0 : Kd.C k113 w A0 l0.length l0) (hc0 : l0.length ≤ c0) (h : tidepolelaw25_spans.f k l0 = some r) :
  Calls Try.prog 87 #[.slice A0 l0.length c0] w fun e w' => ∃ v0_ : Value, e = .returned (v0_) ∧ Kd.R k127 127 w' w.heap.size (fun _ => True) v0_ r ∧ Below w.heap.size w w' := by
 have hu113 := Try.underlying113
 have hu127 := Try.underlying127
 have HR0 := Aside0.mk hr0
 have HC0 := Aside0.mk hc0
 clear hr0 hc0
 have HB := Aside0.mk (Below.refl w.heap.size w)
 have H : (tidepolelaw25_spans.l0 k ([] : List (S127)) l0 (l0.length : Int) 0) = some r := h
 clear h
 have H' := Aside0.mk H
 clear H
 go_enter Try.func87, Try.ntmps87
 go_wp2
 go_loopg [3, 8] k (fun kq v3 v8 w' => ∃ (x3_1 : List (S127)) (x8_1 : Int), v8 = .int .i64 x8_1 ∧ Aside0 (tidepolelaw25_spans.l0 kq x3_1 l0 (l0.length : Int) x8_1 = some r) ∧ Aside0 (kq ≤ k) ∧ Aside0 (Kd.R k127 127 w' w.heap.size (fun _ => True) v3 x3_1) ∧ Aside0 (Below w.heap.size w w'))
 case atStart => exact ⟨(([] : List (S127))), (0), (by first | rfl | (simp; done) | (simp [*]; done)), H', ⟨Nat.le_refl _⟩, ⟨by first | exact Kd.R_nil _ _ _ _ _ | exact Kd.N_nil _ _ _ _ _ | exact Kd.V_nil _ _ _ _ _ | exact Kd.Q_nil _ _ _ _ _ | exact Kd.S_nil _ _ _ _ _⟩, ⟨by repeat (first | (with_reducible first | exact HB.out | apply below_alloc | apply pw_below_drewN | apply below_drew1) | exact HB.out)⟩⟩
 case round =>
  clear H'
  obtain ⟨x3_1, x8_1, rfl, HA, HK1, HO_3, HB⟩ := hrel
  cases gk with
  | zero => exact absurd HA.out (by simp [tidepolelaw25_spans.l0])
  | succ k1 =>
   have H := HA.out
   clear HA
   simp only [tidepolelaw25_spans.l0] at H
   by_cases c2 : x8_1 < (l0.length : Int)
   ·rw [if_pos c2] at H
    have c2b0 : decide (x8_1 < (l0.length : Int)) = true := decide_eq_true c2
    clear c2
    by_cases c3 : 0 ≤ x8_1
    ·rw [if_pos c3] at H
     have c3b0 : decide (0 ≤ x8_1) = true := decide_eq_true c3
     clear c3
     by_cases c4 : x8_1 < (l0.length : Int)
     ·rw [if_pos c4] at H
      have c4b0 : decide (x8_1 < (l0.length : Int)) = true := decide_eq_true c4
      clear c4
      by_cases c5 : x3_1.length < 8796093022208
      ·rw [if_pos c5] at H
       have LMc5 := Aside0.mk c5
       clear c5
       obtain ⟨y103, hy103⟩ : ∃ y_ : List (S127), y_ = (x3_1 ++ [(⟨(rd_T113 l0 x8_1).f0, (rd_T113 l0 x8_1).f1⟩ : S127)]) := ⟨_, rfl⟩
       replace H : (tidepolelaw25_spans.l0 k1 y103 l0 (l0.length : Int) (wrap64 (x8_1 + 1))) = some r := by first | (rw [hy103]; with_reducible exact H) | (have H2_ := (Option.bind_some _ _).symm.trans H; rw [hy103]; with_reducible exact H2_) | (have H2_ := (Option.bind_some _ _).symm.trans H; with_reducible exact H2_) | with_reducible exact H | (rw [hy103]; exact H) | exact H
       have Ny103 := Aside0.mk hy103
       clear hy103
       have H' := Aside0.mk H
       clear H
       have p101 : 0 ≤ (x8_1 : Int) := of_decide_eq_true (by assumption)
       have q101 : x8_1 < (l0.length : Int) := of_decide_eq_true (by assumption)
       obtain ⟨ad101, e101, hx101_0, hx101_1⟩ := at_T113 HR0.out x8_1 p101 q101
       cases e101
       replace hx101_0 := (HB.out.cell (World.block_lt_of_cell? w _ hx101_0)).trans hx101_0
       replace hx101_1 := (HB.out.cell (World.block_lt_of_cell? w _ hx101_1)).trans hx101_1
       replace p101 := eq_true p101
       replace q101 := eq_true q101
       go_wp2_with (first | ((with_reducible refine gate_dst (N := 5) rfl ?_); refine box_event ?hg (N := 5) ?hd (cs := #[.int .i64 0, .int .i64 0]) (t := 113) ?hr ?_; (case hd => rfl); (case hg => rfl); (case hr => first | (go_simp; done) | (go_simp; rfl)); intro gb102 hg w6 hbox hb; have BK102 := Aside0.mk (hbox); have GW102 := Aside0.mk ((by rw [hg]; exact (below_size (below_u HB.out)) : w.heap.size ≤ gb102)); have GE102 := Aside0.mk ((by rw [hg]; exact (below_size (below_u HB.out)) : w.heap.size ≤ gb102)); replace HO_3 := Aside0.mk (Kd.R_ub HO_3.out hb); replace HB := Aside0.mk (below_step (below_u HB.out) hb); clear hb hbox hg; have hcz7_0 := blk_cell BK102.out; have hfz7_0 := blk_frozen BK102.out) | ((with_reducible refine gate_builtin (b := .append) (xs := #[.tmp 12, .tmp 18]) rfl ?_); at_builtin; refine Kd.R_append k127 (w0 := w) w.heap.size rfl (.tmp 12) (.tmp 18) 39 127 (.agg #[(.int .i64 0), (.int .i64 0)]) 16 rfl Try.underlying39 info127 rfl (by decide) (by omega) u3 x3_1 (⟨(rd_T113 l0 x8_1).f0, (rd_T113 l0 x8_1).f1⟩ : S127) [.int .i64 ((rd_T113 l0 x8_1).f0), .int .i64 ((rd_T113 l0 x8_1).f1)] (fun _ => True) (fun _ => False) rfl (by first | (go_simp; done) | (go_simp; rfl)) ?aP (fun _ hk => hk.elim) ?aF ?aO ?aB ?aS ?aL ?_; (case aP => exact k127_mkM _ _ _ (⟨(rd_T113 l0 x8_1).f0, (rd_T113 l0 x8_1).f1⟩ : S127)); (case aB => exact (by repeat (first | (with_reducible first | exact HB.out | refine below_q ?_ | refine below_set ?_ GE102.out) | exact HB.out))); (case aF => exact (fun _ _ => trivial)); (case aO => exact (Kd.R_u (Kd.R_mono (Kd.R_far (p := ⟨gb102, 1, none⟩) (Kd.R_far (p := ⟨gb102, 0, none⟩) (Kd.R_types HO_3.out BK102.out (by decide)) (fun _ hk => hk.2) (.int .i64 ((rd_T113 l0 x8_1).f0))) (fun _ hk => hk.2) (.int .i64 ((rd_T113 l0 x8_1).f1))) (fun _ hk => trivial)))); (case aS => exact (below_size (by repeat (first | (with_reducible first | exact HB.out | refine below_q ?_ | refine below_set ?_ GE102.out) | exact HB.out)))); (case aL => have := LMc5.out; omega); intro v104 w8 ho hb hg hat; rw [← Ny103.out] at ho; have n0_ := Aside0.mk (blk_grown (g := gb102) (o := .cells #[.int .i64 ((rd_T113 l0 x8_1).f0), .int .i64 ((rd_T113 l0 x8_1).f1)] 113 (0, 0)) (by (repeat with_reducible refine blk_q ?_); refine blk_put (cs := #[.int .i64 ((rd_T113 l0 x8_1).f0), .int .i64 0]) ?_ 1 _ rfl; (repeat with_reducible refine blk_q ?_); refine blk_put (cs := #[.int .i64 0, .int .i64 0]) ?_ 0 _ rfl; (repeat with_reducible refine blk_q ?_); exact BK102.out) hg (Kd.R_ne HO_3.out BK102.out (by decide))); have HO105 := Aside0.mk (ho); replace HB := Aside0.mk (hb); clear HO_3; clear BK102; have BK102 := n0_; clear n0_; clear ho hb hg hat))
       go_roundg k1
       case measure => have := HK1.out; omega
       case rel => exact ⟨(y103), (wrap64 (x8_1 + 1)), (by first | rfl | (simp; done) | (simp [*]; done)), H', ⟨by have := HK1.out; omega⟩, ⟨by (repeat with_reducible refine Kd.R_q ?_); exact HO105.out⟩, ⟨by repeat (first | (with_reducible first | exact HB.out | apply below_alloc | apply pw_below_drewN | apply below_drew1 | refine below_set ?_ GE102.out) | exact HB.out)⟩⟩
      rw [if_neg c5] at H
      exact absurd H (by simp)
     rw [if_neg c4] at H
     exact absurd H (by simp)
    rw [if_neg c3] at H
    exact absurd H (by simp)
   rw [if_neg c2] at H
   have c2b0 : decide (x8_1 < (l0.length : Int)) = false := decide_eq_false c2
   clear c2
   obtain rfl := Option.some.inj H
   go_wp2
   go_ret
   exact ⟨_, by first | rfl | (simp [errW_none, errW_some] <;> rfl) | (simp [*, errW_none, errW_some] <;> rfl), by (repeat with_reducible refine Kd.R_q ?_); exact HO_3.out, by repeat (first | (with_reducible first | exact HB.out | apply below_alloc | apply pw_below_drewN | apply below_drew1) | exact HB.out)⟩
def tidepolelaw25_ints.f (k : Nat) (a0_0 : Int) (a0_1 : Int) (a0_2 : Int) (a0_3 : Int) (a0_4 : Int) (l0_5 : List (S113)) (l0_6 : List (S113)) (l0_7 : List Int) (l0_8 : List Int) : Option (Int × Int × Int × Int × Int × (List (S127)) × (List (S127)) × List Int × List Int) := (tidepolelaw25_spans.f k l0_5).bind fun t103 => ((tidepolelaw25_spans.f k l0_6).bind fun t106 => (some (a0_0, a0_1, a0_2, a0_3, a0_4, t103, t106, l0_7, l0_8)))
def tidepolelaw25_ints.T1 : Bool × List (List Nat × List Nat) := (true, [([], []), ([0], [0]), ([], []), ([2], [2]), ([], []), ([4], [4]), ([], []), ([6], [6]), ([], []), ([8], [8]), ([], []), ([10], [10]), ([11], [11]), ([], []), ([13], [13]), ([14, 12], [14]), ([], []), ([16], [16]), ([], []), ([18], [18]), ([1, 3, 5, 7, 9, 12, 15, 17, 19], [1, 3, 5, 7, 9, 12, 15, 17, 19]), ([20, 15, 0, 1, 2, 3, 4, 5, 6, 7, 8, 9, 10, 11, 12, 13, 14, 15, 16, 17, 18, 19, 20], [20])])
def tidepolelaw25_ints.B1 : List Nat := [0, 1, 0, 4, 0, 16, 0, 64, 0, 256, 0, 1024, 3072, 0, 8192, 31744, 0, 65536, 0, 262144, 1048575, 2097151]
theorem tidepolelaw25_ints.tab1 : rtab .any (opsOf Try.f29 1) = tidepolelaw25_ints.T1 := by kernel_rfl
theorem tidepolelaw25_ints.bits1 : waitsOk tidepolelaw25_ints.T1.2 tidepolelaw25_ints.B1 = true := by kernel_rfl
set_option maxHeartbeats 8000000 in
set_option maxRecDepth 100000 in
theorem tidepolelaw25_ints.calls (k : Nat) (a0_0 : Int) (a0_1 : Int) (a0_2 : Int) (a0_3 : Int) (a0_4 : Int) (A0_5 : Option Addr) (c0_5 : Nat) (l0_5 : List (S113)) (A0_6 : Option Addr) (c0_6 : Nat) (l0_6 : List (S113)) (P0_7_ : Nat → Prop) (A0_7 : Option Addr) (c0_7 : Nat) (l0_7 : List Int) (P0_8_ : Nat → Prop) (A0_8 : Option Addr) (c0_8 : Nat) (l0_8 : List Int) (r1 : Int) (r2 : Int) (r3 : Int) (r4 : Int) (r5 : Int) (r6 : List (S127)) (r7 : List (S127)) (r8 : List Int) (r9 : List Int) (w : World) (hr0_5 : Kd.C k113 w A0_5 l0_5.length l0_5) (hc0_5 : l0_5.length ≤ c0_5) (hr0_6 : Kd.C k113 w A0_6 l0_6.length l0_6) (hc0_6 : l0_6.length ≤ c0_6) (hs0_7 : Kd.V (Kd.int .i64) 2 w w.heap.size (fun k_ => P0_7_ k_) (.slice A0_7 l0_7.length c0_7) l0_7) (hs0_8 : Kd.V (Kd.int .i64) 2 w w.heap.size (fun k_ => P0_8_ k_) (.slice A0_8 l0_8.length c0_8) l0_8) (h : tidepolelaw25_ints.f k a0_0 a0_1 a0_2 a0_3 a0_4 l0_5 l0_6 l0_7 l0_8 = some (r1, r2, r3, r4, r5, r6, r7, r8, r9)) :
  Calls Try.prog 29 #[.agg #[.int .i64 a0_0, .int .u64 a0_1, .int .u64 a0_2, .int .u64 a0_3, .int .u64 a0_4, .slice A0_5 l0_5.length c0_5, .slice A0_6 l0_6.length c0_6, .slice A0_7 l0_7.length c0_7, .slice A0_8 l0_8.length c0_8]] w fun e w' => ∃ v5_ v6_ v7_ v8_ : Value, e = .returned (.agg #[.int .i64 r1, .int .u64 r2, .int .u64 r3, .int .u64 r4, .int .u64 r5, v5_, v6_, v7_, v8_]) ∧ Kd.R k127 127 w' w.heap.size (fun k_ => (w.heap.size ≤ k_) ∧ some k_ ≠ (v6_ : Value).ownBlock) v5_ r6 ∧ Kd.R k127 127 w' w.heap.size (fun k_ => (w.heap.size ≤ k_) ∧ some k_ ≠ (v5_ : Value).ownBlock) v6_ r7 ∧ Kd.V (Kd.int .i64) 2 w' w.heap.size (fun k_ => ((P0_7_ k_ ∨ P0_8_ k_) ∨ w.heap.size ≤ k_) ∧ some k_ ≠ (v5_ : Value).ownBlock ∧ some k_ ≠ (v6_ : Value).ownBlock) v7_ r8 ∧ Kd.V (Kd.int .i64) 2 w' w.heap.size (fun k_ => ((P0_7_ k_ ∨ P0_8_ k_) ∨ w.heap.size ≤ k_) ∧ some k_ ≠ (v5_ : Value).ownBlock ∧ some k_ ≠ (v6_ : Value).ownBlock) v8_ r9 ∧ Below w.heap.size w w' := by
 have hu29 := Try.underlying29
 have hu41 := Try.underlying41
 have HR0_5 := Aside0.mk hr0_5
 have HC0_5 := Aside0.mk hc0_5
 clear hr0_5 hc0_5
 have HR0_6 := Aside0.mk hr0_6
 have HC0_6 := Aside0.mk hc0_6
 clear hr0_6 hc0_6
 have HO0_7 := Aside0.mk (show Kd.V (Kd.int .i64) 2 w w.heap.size (fun k_ => ((P0_7_ k_ ∨ P0_8_ k_) ∨ w.heap.size ≤ k_)) (.slice A0_7 l0_7.length c0_7) l0_7 from Kd.V_mono hs0_7 (fun k_ hk => .inl (.inl hk)))
 have HO0_8 := Aside0.mk (show Kd.V (Kd.int .i64) 2 w w.heap.size (fun k_ => ((P0_7_ k_ ∨ P0_8_ k_) ∨ w.heap.size ≤ k_)) (.slice A0_8 l0_8.length c0_8) l0_8 from Kd.V_mono hs0_8 (fun k_ hk => .inl (.inr hk)))
 have HB := Aside0.mk (Below.refl w.heap.size w)
 have H : ((tidepolelaw25_spans.f k l0_5).bind fun t103 => ((tidepolelaw25_spans.f k l0_6).bind fun t106 => (some (a0_0, a0_1, a0_2, a0_3, a0_4, t103, t106, l0_7, l0_8)))) = some (r1, r2, r3, r4, r5, r6, r7, r8, r9) := h
 clear h
 replace H := Option.bind_eq_some_iff.mp H
 obtain ⟨t103, A20, H⟩ := H
 replace H : ((tidepolelaw25_spans.f k l0_6).bind fun t106 => (some (a0_0, a0_1, a0_2, a0_3, a0_4, t103, t106, l0_7, l0_8))) = some (r1, r2, r3, r4, r5, r6, r7, r8, r9) := H
 have A2 := Aside0.mk A20
 clear A20
 replace H := Option.bind_eq_some_iff.mp H
 obtain ⟨t106, A30, H⟩ := H
 replace H : (some (a0_0, a0_1, a0_2, a0_3, a0_4, t103, t106, l0_7, l0_8)) = some (r1, r2, r3, r4, r5, r6, r7, r8, r9) := H
 have A3 := Aside0.mk A30
 clear A30
 simp only [Option.some.injEq, Prod.mk.injEq] at H
 obtain ⟨rfl, rfl, rfl, rfl, rfl, rfl, rfl, rfl, rfl⟩ := H
 go_enter Try.func29, Try.ntmps29
 try go_wp2_with (first | ((with_reducible refine gate_dst (N := 1) rfl ?_); refine box_event ?hg (N := 1) ?hd (cs := #[.int .i64 a0_0, .int .u64 a0_1, .int .u64 a0_2, .int .u64 a0_3, .int .u64 a0_4, .slice A0_5 l0_5.length c0_5, .slice A0_6 l0_6.length c0_6, .slice A0_7 l0_7.length c0_7, .slice A0_8 l0_8.length c0_8]) (t := 29) ?hr ?_; (case hd => rfl); (case hg => rfl); (case hr => first | (go_simp; done) | (go_simp; rfl)); intro gb101 hg w4 hbox hb; have BK101 := Aside0.mk (hbox); have GW101 := Aside0.mk ((by rw [hg]; exact (below_size (below_u HB.out)) : w.heap.size ≤ gb101)); have GE101 := Aside0.mk ((by rw [hg]; exact (below_size (below_u HB.out)) : w.heap.size ≤ gb101)); replace HO0_7 := Aside0.mk (Kd.V_below (Kd.V_elderB (by (with_reducible repeat (first | apply Kd.V_alloc | apply Kd.V_drewN | apply Kd.V_drew)); exact HO0_7.out) gb101 (Nat.le_of_eq hg.symm)) hb); replace HO0_8 := Aside0.mk (Kd.V_below (Kd.V_elderB (by (with_reducible repeat (first | apply Kd.V_alloc | apply Kd.V_drewN | apply Kd.V_drew)); exact HO0_8.out) gb101 (Nat.le_of_eq hg.symm)) hb); replace HB := Aside0.mk (below_step (below_u HB.out) hb); clear hb hbox hg) | ((with_reducible refine gate_dst (N := 2) rfl ?_); refine box_event ?hg (N := 2) ?hd (cs := #[.int .i64 0, .int .u64 0, .int .u64 0, .int .u64 0, .int .u64 0, .slice none 0 0, .slice none 0 0, .slice none 0 0, .slice none 0 0]) (t := 41) ?hr ?_; (case hd => rfl); (case hg => rfl); (case hr => first | (go_simp; done) | (go_simp; rfl)); intro gb102 hg w5 hbox hb; have BK102 := Aside0.mk (hbox); have GW102 := Aside0.mk ((by rw [hg]; exact (below_size (by repeat (first | (with_reducible first | exact HB.out | refine below_q ?_ | refine below_set ?_ GE101.out) | exact HB.out))) : w.heap.size ≤ gb102)); have GE102 := Aside0.mk ((by rw [hg]; exact (below_size (by repeat (first | (with_reducible first | exact HB.out | refine below_q ?_ | refine below_set ?_ GE101.out) | exact HB.out))) : w.heap.size ≤ gb102)); have NB101_102 := Aside0.mk ((by rw [hg]; exact Nat.ne_of_lt (blk_lt (g := gb101) (o := .cells #[.int .i64 a0_0, .int .u64 a0_1, .int .u64 a0_2, .int .u64 a0_3, .int .u64 a0_4, .slice A0_5 l0_5.length c0_5, .slice A0_6 l0_6.length c0_6, .slice A0_7 l0_7.length c0_7, .slice A0_8 l0_8.length c0_8] 29 (0, 0)) (blk_u BK101.out)) : gb101 ≠ gb102)); have NB102_101 := Aside0.mk ((by rw [hg]; exact Nat.ne_of_gt (blk_lt (g := gb101) (o := .cells #[.int .i64 a0_0, .int .u64 a0_1, .int .u64 a0_2, .int .u64 a0_3, .int .u64 a0_4, .slice A0_5 l0_5.length c0_5, .slice A0_6 l0_6.length c0_6, .slice A0_7 l0_7.length c0_7, .slice A0_8 l0_8.length c0_8] 29 (0, 0)) (blk_u BK101.out)) : gb102 ≠ gb101)); replace HO0_7 := Aside0.mk (Kd.V_below (Kd.V_elderB (by (with_reducible repeat (first | apply Kd.V_alloc | apply Kd.V_drewN | apply Kd.V_drew)); exact HO0_7.out) gb102 (Nat.le_of_eq hg.symm)) hb); replace HO0_8 := Aside0.mk (Kd.V_below (Kd.V_elderB (by (with_reducible repeat (first | apply Kd.V_alloc | apply Kd.V_drewN | apply Kd.V_drew)); exact HO0_8.out) gb102 (Nat.le_of_eq hg.symm)) hb); replace BK101 := Aside0.mk (blk_ub BK101.out hb); replace HB := Aside0.mk (below_step (by repeat (first | (with_reducible first | exact HB.out | refine below_q ?_ | refine below_set ?_ GE101.out) | exact HB.out)) hb); clear hb hbox hg))
 have n0_ := Aside0.mk (Kd.V_drew HO0_7.out)
 have n1_ := Aside0.mk (Kd.V_drew HO0_8.out)
 have n2_ := Aside0.mk (blk_drew BK101.out)
 have n3_ := Aside0.mk (blk_drew BK102.out)
 have n4_ := Aside0.mk (below_drew1 HB.out)
 clear HO0_7
 clear HO0_8
 clear BK101
 clear BK102
 clear HB
 have HO0_7 := n0_
 have HO0_8 := n1_
 have BK101 := n2_
 have BK102 := n3_
 have HB := n4_
 clear n0_ n1_ n2_ n3_ n4_
 refine start_ (n := 22) (S := fun w' => w'.cell? ⟨gb101, 0, none⟩ = some (.int .i64 a0_0) ∧ w'.cell? ⟨gb101, 1, none⟩ = some (.int .u64 a0_1) ∧ w'.cell? ⟨gb101, 2, none⟩ = some (.int .u64 a0_2) ∧ w'.cell? ⟨gb101, 3, none⟩ = some (.int .u64 a0_3) ∧ w'.cell? ⟨gb101, 4, none⟩ = some (.int .u64 a0_4) ∧ w'.cell? ⟨gb101, 5, none⟩ = some (.slice A0_5 l0_5.length c0_5) ∧ w'.cell? ⟨gb101, 6, none⟩ = some (.slice A0_6 l0_6.length c0_6) ∧ w'.cell? ⟨gb101, 7, none⟩ = some (.slice A0_7 l0_7.length c0_7) ∧ w'.cell? ⟨gb101, 8, none⟩ = some (.slice A0_8 l0_8.length c0_8)) (ds := []) #[false, false, false, false, false, false, false, false, false, false, false, false, false, false, false, false, false, false, false, false, false, false] (by kernel_rfl) rfl rfl ⟨(blk_cell BK101.out 0).trans rfl, (blk_cell BK101.out 1).trans rfl, (blk_cell BK101.out 2).trans rfl, (blk_cell BK101.out 3).trans rfl, (blk_cell BK101.out 4).trans rfl, (blk_cell BK101.out 5).trans rfl, (blk_cell BK101.out 6).trans rfl, (blk_cell BK101.out 7).trans rfl, (blk_cell BK101.out 8).trans rfl⟩ (fun hHeld => ?_); refine with_tabW tidepolelaw25_ints.tab1 tidepolelaw25_ints.bits1 (fun HT_ HW_ => ?_)
 generalize w5.drew = w6 at HO0_7 HO0_8 BK101 BK102 HB hHeld ⊢
 refine pure_ (i := 0) (N := some 3) (v := ?_) (a' := ?_) #[true, false, false, false, false, false, false, false, false, false, false, false, false, false, false, false, false, false, false, false, false, false] rfl rfl (any_of HT_.out (by kernel_rfl)) (fun _ _ _ h => h) (Or.inl ⟨by rfl, ?_⟩) ?_ ?_
 rotate_left
 ·intro w'
  go_simp
  with_reducible rfl
 rotate_left
 ·simp only [Act.put, List.setIfInBounds_toArray, List.set_cons_zero, List.set_cons_succ, i64_w, i32_w]
  rfl
 refine pure_ (i := 2) (N := some 5) (v := ?_) (a' := ?_) #[true, false, true, false, false, false, false, false, false, false, false, false, false, false, false, false, false, false, false, false, false, false] rfl rfl (any_of HT_.out (by kernel_rfl)) (fun _ _ _ h => h) (Or.inl ⟨by rfl, ?_⟩) ?_ ?_
 rotate_left
 ·intro w'
  go_simp
  with_reducible rfl
 rotate_left
 ·simp only [Act.put, List.setIfInBounds_toArray, List.set_cons_zero, List.set_cons_succ, i64_w, i32_w]
  rfl
 refine pure_ (i := 4) (N := some 7) (v := ?_) (a' := ?_) #[true, false, true, false, true, false, false, false, false, false, false, false, false, false, false, false, false, false, false, false, false, false] rfl rfl (any_of HT_.out (by kernel_rfl)) (fun _ _ _ h => h) (Or.inl ⟨by rfl, ?_⟩) ?_ ?_
 rotate_left
 ·intro w'
  go_simp
  with_reducible rfl
 rotate_left
 ·simp only [Act.put, List.setIfInBounds_toArray, List.set_cons_zero, List.set_cons_succ, i64_w, i32_w]
  rfl
 refine pure_ (i := 6) (N := some 9) (v := ?_) (a' := ?_) #[true, false, true, false, true, false, true, false, false, false, false, false, false, false, false, false, false, false, false, false, false, false] rfl rfl (any_of HT_.out (by kernel_rfl)) (fun _ _ _ h => h) (Or.inl ⟨by rfl, ?_⟩) ?_ ?_
 rotate_left
 ·intro w'
  go_simp
  with_reducible rfl
 rotate_left
 ·simp only [Act.put, List.setIfInBounds_toArray, List.set_cons_zero, List.set_cons_succ, i64_w, i32_w]
  rfl
 refine pure_ (i := 8) (N := some 11) (v := ?_) (a' := ?_) #[true, false, true, false, true, false, true, false, true, false, false, false, false, false, false, false, false, false, false, false, false, false] rfl rfl (any_of HT_.out (by kernel_rfl)) (fun _ _ _ h => h) (Or.inl ⟨by rfl, ?_⟩) ?_ ?_
 rotate_left
 ·intro w'
  go_simp
  with_reducible rfl
 rotate_left
 ·simp only [Act.put, List.setIfInBounds_toArray, List.set_cons_zero, List.set_cons_succ, i64_w, i32_w]
  rfl
 refine pure_ (i := 10) (N := some 13) (v := ?_) (a' := ?_) #[true, false, true, false, true, false, true, false, true, false, true, false, false, false, false, false, false, false, false, false, false, false] rfl rfl (any_of HT_.out (by kernel_rfl)) (fun _ _ _ h => h) (Or.inl ⟨by rfl, ?_⟩) ?_ ?_
 rotate_left
 ·intro w'
  go_simp
  with_reducible rfl
 rotate_left
 ·simp only [Act.put, List.setIfInBounds_toArray, List.set_cons_zero, List.set_cons_succ, i64_w, i32_w]
  rfl
 refine pure_ (i := 13) (N := some 16) (v := ?_) (a' := ?_) #[true, false, true, false, true, false, true, false, true, false, true, false, false, true, false, false, false, false, false, false, false, false] rfl rfl (any_of HT_.out (by kernel_rfl)) (fun _ _ _ h => h) (Or.inl ⟨by rfl, ?_⟩) ?_ ?_
 rotate_left
 ·intro w'
  go_simp
  with_reducible rfl
 rotate_left
 ·simp only [Act.put, List.setIfInBounds_toArray, List.set_cons_zero, List.set_cons_succ, i64_w, i32_w]
  rfl
 refine pure_ (i := 16) (N := some 19) (v := ?_) (a' := ?_) #[true, false, true, false, true, false, true, false, true, false, true, false, false, true, false, false, true, false, false, false, false, false] rfl rfl (any_of HT_.out (by kernel_rfl)) (fun _ _ _ h => h) (Or.inl ⟨by rfl, ?_⟩) ?_ ?_
 rotate_left
 ·intro w'
  go_simp
  with_reducible rfl
 rotate_left
 ·simp only [Act.put, List.setIfInBounds_toArray, List.set_cons_zero, List.set_cons_succ, i64_w, i32_w]
  rfl
 refine pure_ (i := 18) (N := some 21) (v := ?_) (a' := ?_) #[true, false, true, false, true, false, true, false, true, false, true, false, false, true, false, false, true, false, true, false, false, false] rfl rfl (any_of HT_.out (by kernel_rfl)) (fun _ _ _ h => h) (Or.inl ⟨by rfl, ?_⟩) ?_ ?_
 rotate_left
 ·intro w'
  go_simp
  with_reducible rfl
 rotate_left
 ·simp only [Act.put, List.setIfInBounds_toArray, List.set_cons_zero, List.set_cons_succ, i64_w, i32_w]
  rfl
 refine take_ (i := 1) (N := some 4) (v := ?_) (a' := ?_) #[true, true, true, false, true, false, true, false, true, false, true, false, false, true, false, false, true, false, true, false, false, false] rfl rfl (take_ofW HT_.out HW_.out (by kernel_rfl)) (fun _ _ _ h => h) (Or.inl ⟨by rfl, ?_⟩) hHeld ?_ ?_
 rotate_left
 ·rintro w' ⟨s0, s1, s2, s3, s4, s5, s6, s7, s8⟩
  go_simp
  with_reducible rfl
 rotate_left
 ·simp only [Act.put, List.setIfInBounds_toArray, List.set_cons_zero, List.set_cons_succ, i64_w, i32_w]
  rfl
 refine take_ (i := 3) (N := some 6) (v := ?_) (a' := ?_) #[true, true, true, true, true, false, true, false, true, false, true, false, false, true, false, false, true, false, true, false, false, false] rfl rfl (take_ofW HT_.out HW_.out (by kernel_rfl)) (fun _ _ _ h => h) (Or.inl ⟨by rfl, ?_⟩) hHeld ?_ ?_
 rotate_left
 ·rintro w' ⟨s0, s1, s2, s3, s4, s5, s6, s7, s8⟩
  go_simp
  with_reducible rfl
 rotate_left
 ·simp only [Act.put, List.setIfInBounds_toArray, List.set_cons_zero, List.set_cons_succ, i64_w, i32_w]
  rfl
 refine take_ (i := 5) (N := some 8) (v := ?_) (a' := ?_) #[true, true, true, true, true, true, true, false, true, false, true, false, false, true, false, false, true, false, true, false, false, false] rfl rfl (take_ofW HT_.out HW_.out (by kernel_rfl)) (fun _ _ _ h => h) (Or.inl ⟨by rfl, ?_⟩) hHeld ?_ ?_
 rotate_left
 ·rintro w' ⟨s0, s1, s2, s3, s4, s5, s6, s7, s8⟩
  go_simp
  with_reducible rfl
 rotate_left
 ·simp only [Act.put, List.setIfInBounds_toArray, List.set_cons_zero, List.set_cons_succ, i64_w, i32_w]
  rfl
 refine take_ (i := 7) (N := some 10) (v := ?_) (a' := ?_) #[true, true, true, true, true, true, true, true, true, false, true, false, false, true, false, false, true, false, true, false, false, false] rfl rfl (take_ofW HT_.out HW_.out (by kernel_rfl)) (fun _ _ _ h => h) (Or.inl ⟨by rfl, ?_⟩) hHeld ?_ ?_
 rotate_left
 ·rintro w' ⟨s0, s1, s2, s3, s4, s5, s6, s7, s8⟩
  go_simp
  with_reducible rfl
 rotate_left
 ·simp only [Act.put, List.setIfInBounds_toArray, List.set_cons_zero, List.set_cons_succ, i64_w, i32_w]
  rfl
 refine take_ (i := 9) (N := some 12) (v := ?_) (a' := ?_) #[true, true, true, true, true, true, true, true, true, true, true, false, false, true, false, false, true, false, true, false, false, false] rfl rfl (take_ofW HT_.out HW_.out (by kernel_rfl)) (fun _ _ _ h => h) (Or.inl ⟨by rfl, ?_⟩) hHeld ?_ ?_
 rotate_left
 ·rintro w' ⟨s0, s1, s2, s3, s4, s5, s6, s7, s8⟩
  go_simp
  with_reducible rfl
 rotate_left
 ·simp only [Act.put, List.setIfInBounds_toArray, List.set_cons_zero, List.set_cons_succ, i64_w, i32_w]
  rfl
 refine take_ (i := 11) (N := some 14) (v := ?_) (a' := ?_) #[true, true, true, true, true, true, true, true, true, true, true, true, false, true, false, false, true, false, true, false, false, false] rfl rfl (take_ofW HT_.out HW_.out (by kernel_rfl)) (fun _ _ _ h => h) (Or.inl ⟨by rfl, ?_⟩) hHeld ?_ ?_
 rotate_left
 ·rintro w' ⟨s0, s1, s2, s3, s4, s5, s6, s7, s8⟩
  go_simp
  with_reducible rfl
 rotate_left
 ·simp only [Act.put, List.setIfInBounds_toArray, List.set_cons_zero, List.set_cons_succ, i64_w, i32_w]
  rfl
 refine take_ (i := 14) (N := some 17) (v := ?_) (a' := ?_) #[true, true, true, true, true, true, true, true, true, true, true, true, false, true, true, false, true, false, true, false, false, false] rfl rfl (take_ofW HT_.out HW_.out (by kernel_rfl)) (fun _ _ _ h => h) (Or.inl ⟨by rfl, ?_⟩) hHeld ?_ ?_
 rotate_left
 ·rintro w' ⟨s0, s1, s2, s3, s4, s5, s6, s7, s8⟩
  go_simp
  with_reducible rfl
 rotate_left
 ·simp only [Act.put, List.setIfInBounds_toArray, List.set_cons_zero, List.set_cons_succ, i64_w, i32_w]
  rfl
 refine take_ (i := 17) (N := some 20) (v := ?_) (a' := ?_) #[true, true, true, true, true, true, true, true, true, true, true, true, false, true, true, false, true, true, true, false, false, false] rfl rfl (take_ofW HT_.out HW_.out (by kernel_rfl)) (fun _ _ _ h => h) (Or.inl ⟨by rfl, ?_⟩) hHeld ?_ ?_
 rotate_left
 ·rintro w' ⟨s0, s1, s2, s3, s4, s5, s6, s7, s8⟩
  go_simp
  with_reducible rfl
 rotate_left
 ·simp only [Act.put, List.setIfInBounds_toArray, List.set_cons_zero, List.set_cons_succ, i64_w, i32_w]
  rfl
 refine take_ (i := 19) (N := some 22) (v := ?_) (a' := ?_) #[true, true, true, true, true, true, true, true, true, true, true, true, false, true, true, false, true, true, true, true, false, false] rfl rfl (take_ofW HT_.out HW_.out (by kernel_rfl)) (fun _ _ _ h => h) (Or.inl ⟨by rfl, ?_⟩) hHeld ?_ ?_
 rotate_left
 ·rintro w' ⟨s0, s1, s2, s3, s4, s5, s6, s7, s8⟩
  go_simp
  with_reducible rfl
 rotate_left
 ·simp only [Act.put, List.setIfInBounds_toArray, List.set_cons_zero, List.set_cons_succ, i64_w, i32_w]
  rfl
 refine one_ (i := 12) (N := some 15) #[true, true, true, true, true, true, true, true, true, true, true, true, true, true, true, false, true, true, true, true, false, false] rfl rfl (one_of HT_.out (by kernel_rfl)) (by decide) (fun K hK => ?_)
 refine goes_ Try.func87 (by kernel_rfl) rfl #[.slice A0_5 l0_5.length c0_5] (by rfl) rfl rfl (by (try simp only [List.map_toArray, List.map_cons, List.map_nil]); first | done | rfl | (simp only [List.length_drop, List.length_take]; rfl)) ?_
 with_reducible refine (tidepolelaw25_spans.calls k _ _ l0_5 t103 _ ?side1 ?side2 A2.out).mono ?_
 (case side1 => exact Kd.C_u (Kd.C_below HR0_5.out HB.out))
 (case side2 => exact HC0_5.out)
 rintro e w7 ⟨v104, rfl, ho0, hb⟩
 refine ⟨_, rfl, ?_⟩
 have n0_ := Aside0.mk (Kd.V_elder' (by (with_reducible repeat (first | apply Kd.V_alloc | apply Kd.V_drewN | apply Kd.V_drew)); exact HO0_7.out) (Kd.R_base ho0) hb)
 have n1_ := Aside0.mk (Kd.V_elder' (by (with_reducible repeat (first | apply Kd.V_alloc | apply Kd.V_drewN | apply Kd.V_drew)); exact HO0_8.out) (Kd.R_base ho0) hb)
 have n2_ := Aside0.mk (Kd.R_lower (Kd.R_newM (M := fun k_ => (w.heap.size ≤ k_)) ho0 (below_size (by repeat (first | (with_reducible first | exact HB.out | refine below_q ?_ | refine below_set ?_ GE101.out | refine below_set ?_ GE102.out) | exact HB.out))) (fun k_ h_ => h_)) (below_size (by repeat (first | (with_reducible first | exact HB.out | refine below_q ?_ | refine below_set ?_ GE101.out | refine below_set ?_ GE102.out) | exact HB.out))))
 have n3_ := Aside0.mk (blk_ub BK101.out hb)
 have n4_ := Aside0.mk (blk_ub BK102.out hb)
 have n5_ := Aside0.mk (below_step (by repeat (first | (with_reducible first | exact HB.out | refine below_q ?_ | refine below_set ?_ GE101.out | refine below_set ?_ GE102.out) | exact HB.out)) hb)
 clear HO0_7
 clear HO0_8
 clear BK101
 clear BK102
 clear HB
 have HO0_7 := n0_
 have HO0_8 := n1_
 have HO105 := n2_
 have BK101 := n3_
 have BK102 := n4_
 have HB := n5_
 clear n0_ n1_ n2_ n3_ n4_ n5_
 (try clear hb)
 (try clear hb2)
 (try clear hk)
 (try clear hi)
 (try clear ho0)
 refine hK.out _ _ ⟨(blk_cell BK101.out 0).trans rfl, (blk_cell BK101.out 1).trans rfl, (blk_cell BK101.out 2).trans rfl, (blk_cell BK101.out 3).trans rfl, (blk_cell BK101.out 4).trans rfl, (blk_cell BK101.out 5).trans rfl, (blk_cell BK101.out 6).trans rfl, (blk_cell BK101.out 7).trans rfl, (blk_cell BK101.out 8).trans rfl⟩ (fun hHeld => ?_)
 clear hK K
 refine norm_ (a' := ?_) ?_ ?_
 rotate_left
 ·show Act.put _ (some 15) _ = _
  simp only [Act.put, List.setIfInBounds_toArray, List.set_cons_zero, List.set_cons_succ, i64_w, i32_w]
  rfl
 refine one_ (i := 15) (N := some 18) #[true, true, true, true, true, true, true, true, true, true, true, true, true, true, true, true, true, true, true, true, false, false] rfl rfl (one_of HT_.out (by kernel_rfl)) (by decide) (fun K hK => ?_)
 refine goes_ Try.func87 (by kernel_rfl) rfl #[.slice A0_6 l0_6.length c0_6] (by rfl) rfl rfl (by (try simp only [List.map_toArray, List.map_cons, List.map_nil]); first | done | rfl | (simp only [List.length_drop, List.length_take]; rfl)) ?_
 with_reducible refine (tidepolelaw25_spans.calls k _ _ l0_6 t106 _ ?side1 ?side2 A3.out).mono ?_
 (case side1 => exact Kd.C_u (Kd.C_below HR0_6.out HB.out))
 (case side2 => exact HC0_6.out)
 rintro e w8 ⟨v107, rfl, ho0, hb⟩
 refine ⟨_, rfl, ?_⟩
 have n0_ := Aside0.mk (Kd.V_elder' (by (with_reducible repeat (first | apply Kd.V_alloc | apply Kd.V_drewN | apply Kd.V_drew)); exact HO0_7.out) (Kd.R_base ho0) hb)
 have n1_ := Aside0.mk (Kd.V_elder' (by (with_reducible repeat (first | apply Kd.V_alloc | apply Kd.V_drewN | apply Kd.V_drew)); exact HO0_8.out) (Kd.R_base ho0) hb)
 have n2_ := Aside0.mk (Kd.R_elder' (Kd.R_u HO105.out) (Kd.R_base ho0) hb)
 have n3_ := Aside0.mk (Kd.R_lower (Kd.R_new' (Kd.R_newM (M := fun k_ => (w.heap.size ≤ k_)) ho0 (below_size (by repeat (first | (with_reducible first | exact HB.out | refine below_q ?_ | refine below_set ?_ GE101.out | refine below_set ?_ GE102.out) | exact HB.out))) (fun k_ h_ => h_)) (Kd.R_lt (Kd.R_u HO105.out))) (below_size (by repeat (first | (with_reducible first | exact HB.out | refine below_q ?_ | refine below_set ?_ GE101.out | refine below_set ?_ GE102.out) | exact HB.out))))
 have n4_ := Aside0.mk (blk_ub BK101.out hb)
 have n5_ := Aside0.mk (blk_ub BK102.out hb)
 have n6_ := Aside0.mk (below_step (by repeat (first | (with_reducible first | exact HB.out | refine below_q ?_ | refine below_set ?_ GE101.out | refine below_set ?_ GE102.out) | exact HB.out)) hb)
 clear HO0_7
 clear HO0_8
 clear HO105
 clear BK101
 clear BK102
 clear HB
 have HO0_7 := n0_
 have HO0_8 := n1_
 have HO105 := n2_
 have HO108 := n3_
 have BK101 := n4_
 have BK102 := n5_
 have HB := n6_
 clear n0_ n1_ n2_ n3_ n4_ n5_ n6_
 (try clear hb)
 (try clear hb2)
 (try clear hk)
 (try clear hi)
 (try clear ho0)
 obtain ⟨Ao9, co9, eo9⟩ := Kd.R_slice HO108.out
 (first | subst eo9 | (injection eo9 with f1_ f2_ f3_; have f4_ := f1_.symm; have f5_ := f3_.symm; clear f1_ f2_ f3_; subst f4_; subst f5_))
 obtain ⟨Ao10, co10, eo10⟩ := Kd.R_slice HO105.out
 (first | subst eo10 | (injection eo10 with f1_ f2_ f3_; have f4_ := f1_.symm; have f5_ := f3_.symm; clear f1_ f2_ f3_; subst f4_; subst f5_))
 refine hK.out _ _ ⟨(blk_cell BK101.out 0).trans rfl, (blk_cell BK101.out 1).trans rfl, (blk_cell BK101.out 2).trans rfl, (blk_cell BK101.out 3).trans rfl, (blk_cell BK101.out 4).trans rfl, (blk_cell BK101.out 5).trans rfl, (blk_cell BK101.out 6).trans rfl, (blk_cell BK101.out 7).trans rfl, (blk_cell BK101.out 8).trans rfl⟩ (fun hHeld => ?_)
 clear hK K
 refine norm_ (a' := ?_) ?_ ?_
 rotate_left
 ·show Act.put _ (some 18) _ = _
  simp only [Act.put, List.setIfInBounds_toArray, List.set_cons_zero, List.set_cons_succ, i64_w, i32_w]
  rfl
 refine pure_ (i := 20) (N := some 23) (v := ?_) (a' := ?_) #[true, true, true, true, true, true, true, true, true, true, true, true, true, true, true, true, true, true, true, true, true, false] rfl rfl (any_of HT_.out (by kernel_rfl)) (fun _ _ _ h => h) (Or.inl ⟨by rfl, ?_⟩) ?_ ?_
 rotate_left
 ·intro w'
  go_simp
  with_reducible rfl
 rotate_left
 ·simp only [Act.put, List.setIfInBounds_toArray, List.set_cons_zero, List.set_cons_succ, i64_w, i32_w]
  rfl
 refine one_ (i := 21) (N := none) #[true, true, true, true, true, true, true, true, true, true, true, true, true, true, true, true, true, true, true, true, true, true] rfl rfl (one_of HT_.out (by kernel_rfl)) (by decide) (fun K hK => ?_)
 have hs11 : w8.cell? ⟨gb102, 0, none⟩ = some (.int .i64 0) := (blk_cell BK102.out 0).trans rfl
 have hfs11 := blk_frozen BK102.out 0
 have hns11_0 := NB101_102.out
 have hms11_0 := NB102_101.out
 have hs12 : w8.cell? ⟨gb102, 1, none⟩ = some (.int .u64 0) := (blk_cell BK102.out 1).trans rfl
 have hfs12 := blk_frozen BK102.out 1
 have hns12_0 := NB101_102.out
 have hms12_0 := NB102_101.out
 have hs13 : w8.cell? ⟨gb102, 2, none⟩ = some (.int .u64 0) := (blk_cell BK102.out 2).trans rfl
 have hfs13 := blk_frozen BK102.out 2
 have hns13_0 := NB101_102.out
 have hms13_0 := NB102_101.out
 have hs14 : w8.cell? ⟨gb102, 3, none⟩ = some (.int .u64 0) := (blk_cell BK102.out 3).trans rfl
 have hfs14 := blk_frozen BK102.out 3
 have hns14_0 := NB101_102.out
 have hms14_0 := NB102_101.out
 have hs15 : w8.cell? ⟨gb102, 4, none⟩ = some (.int .u64 0) := (blk_cell BK102.out 4).trans rfl
 have hfs15 := blk_frozen BK102.out 4
 have hns15_0 := NB101_102.out
 have hms15_0 := NB102_101.out
 have hs16 : w8.cell? ⟨gb102, 5, none⟩ = some (.slice none 0 0) := (blk_cell BK102.out 5).trans rfl
 have hfs16 := blk_frozen BK102.out 5
 have hns16_0 := NB101_102.out
 have hms16_0 := NB102_101.out
 have hs17 : w8.cell? ⟨gb102, 6, none⟩ = some (.slice none 0 0) := (blk_cell BK102.out 6).trans rfl
 have hfs17 := blk_frozen BK102.out 6
 have hns17_0 := NB101_102.out
 have hms17_0 := NB102_101.out
 have hs18 : w8.cell? ⟨gb102, 7, none⟩ = some (.slice none 0 0) := (blk_cell BK102.out 7).trans rfl
 have hfs18 := blk_frozen BK102.out 7
 have hns18_0 := NB101_102.out
 have hms18_0 := NB102_101.out
 have hs19 : w8.cell? ⟨gb102, 8, none⟩ = some (.slice none 0 0) := (blk_cell BK102.out 8).trans rfl
 have hfs19 := blk_frozen BK102.out 8
 have hns19_0 := NB101_102.out
 have hms19_0 := NB102_101.out
 refine skip_ (w1 := ?_) (by rfl) rfl ?_ ?_
 rotate_left
 ·go_simp
  rfl
 refine hK.out _ _ ⟨((cell_far (p := ⟨gb102, _, none⟩) NB101_102.out _).trans (((cell_far (p := ⟨gb102, _, none⟩) NB101_102.out _).trans (((cell_far (p := ⟨gb102, _, none⟩) NB101_102.out _).trans (((cell_far (p := ⟨gb102, _, none⟩) NB101_102.out _).trans (((cell_far (p := ⟨gb102, _, none⟩) NB101_102.out _).trans (((cell_far (p := ⟨gb102, _, none⟩) NB101_102.out _).trans (((cell_far (p := ⟨gb102, _, none⟩) NB101_102.out _).trans (((cell_far (p := ⟨gb102, _, none⟩) NB101_102.out _).trans (((cell_far (p := ⟨gb102, _, none⟩) NB101_102.out _).trans (hHeld.1)))))))))))))))))), ((cell_far (p := ⟨gb102, _, none⟩) NB101_102.out _).trans (((cell_far (p := ⟨gb102, _, none⟩) NB101_102.out _).trans (((cell_far (p := ⟨gb102, _, none⟩) NB101_102.out _).trans (((cell_far (p := ⟨gb102, _, none⟩) NB101_102.out _).trans (((cell_far (p := ⟨gb102, _, none⟩) NB101_102.out _).trans (((cell_far (p := ⟨gb102, _, none⟩) NB101_102.out _).trans (((cell_far (p := ⟨gb102, _, none⟩) NB101_102.out _).trans (((cell_far (p := ⟨gb102, _, none⟩) NB101_102.out _).trans (((cell_far (p := ⟨gb102, _, none⟩) NB101_102.out _).trans (hHeld.2.1)))))))))))))))))), ((cell_far (p := ⟨gb102, _, none⟩) NB101_102.out _).trans (((cell_far (p := ⟨gb102, _, none⟩) NB101_102.out _).trans (((cell_far (p := ⟨gb102, _, none⟩) NB101_102.out _).trans (((cell_far (p := ⟨gb102, _, none⟩) NB101_102.out _).trans (((cell_far (p := ⟨gb102, _, none⟩) NB101_102.out _).trans (((cell_far (p := ⟨gb102, _, none⟩) NB101_102.out _).trans (((cell_far (p := ⟨gb102, _, none⟩) NB101_102.out _).trans (((cell_far (p := ⟨gb102, _, none⟩) NB101_102.out _).trans (((cell_far (p := ⟨gb102, _, none⟩) NB101_102.out _).trans (hHeld.2.2.1)))))))))))))))))), ((cell_far (p := ⟨gb102, _, none⟩) NB101_102.out _).trans (((cell_far (p := ⟨gb102, _, none⟩) NB101_102.out _).trans (((cell_far (p := ⟨gb102, _, none⟩) NB101_102.out _).trans (((cell_far (p := ⟨gb102, _, none⟩) NB101_102.out _).trans (((cell_far (p := ⟨gb102, _, none⟩) NB101_102.out _).trans (((cell_far (p := ⟨gb102, _, none⟩) NB101_102.out _).trans (((cell_far (p := ⟨gb102, _, none⟩) NB101_102.out _).trans (((cell_far (p := ⟨gb102, _, none⟩) NB101_102.out _).trans (((cell_far (p := ⟨gb102, _, none⟩) NB101_102.out _).trans (hHeld.2.2.2.1)))))))))))))))))), ((cell_far (p := ⟨gb102, _, none⟩) NB101_102.out _).trans (((cell_far (p := ⟨gb102, _, none⟩) NB101_102.out _).trans (((cell_far (p := ⟨gb102, _, none⟩) NB101_102.out _).trans (((cell_far (p := ⟨gb102, _, none⟩) NB101_102.out _).trans (((cell_far (p := ⟨gb102, _, none⟩) NB101_102.out _).trans (((cell_far (p := ⟨gb102, _, none⟩) NB101_102.out _).trans (((cell_far (p := ⟨gb102, _, none⟩) NB101_102.out _).trans (((cell_far (p := ⟨gb102, _, none⟩) NB101_102.out _).trans (((cell_far (p := ⟨gb102, _, none⟩) NB101_102.out _).trans (hHeld.2.2.2.2.1)))))))))))))))))), ((cell_far (p := ⟨gb102, _, none⟩) NB101_102.out _).trans (((cell_far (p := ⟨gb102, _, none⟩) NB101_102.out _).trans (((cell_far (p := ⟨gb102, _, none⟩) NB101_102.out _).trans (((cell_far (p := ⟨gb102, _, none⟩) NB101_102.out _).trans (((cell_far (p := ⟨gb102, _, none⟩) NB101_102.out _).trans (((cell_far (p := ⟨gb102, _, none⟩) NB101_102.out _).trans (((cell_far (p := ⟨gb102, _, none⟩) NB101_102.out _).trans (((cell_far (p := ⟨gb102, _, none⟩) NB101_102.out _).trans (((cell_far (p := ⟨gb102, _, none⟩) NB101_102.out _).trans (hHeld.2.2.2.2.2.1)))))))))))))))))), ((cell_far (p := ⟨gb102, _, none⟩) NB101_102.out _).trans (((cell_far (p := ⟨gb102, _, none⟩) NB101_102.out _).trans (((cell_far (p := ⟨gb102, _, none⟩) NB101_102.out _).trans (((cell_far (p := ⟨gb102, _, none⟩) NB101_102.out _).trans (((cell_far (p := ⟨gb102, _, none⟩) NB101_102.out _).trans (((cell_far (p := ⟨gb102, _, none⟩) NB101_102.out _).trans (((cell_far (p := ⟨gb102, _, none⟩) NB101_102.out _).trans (((cell_far (p := ⟨gb102, _, none⟩) NB101_102.out _).trans (((cell_far (p := ⟨gb102, _, none⟩) NB101_102.out _).trans (hHeld.2.2.2.2.2.2.1)))))))))))))))))), ((cell_far (p := ⟨gb102, _, none⟩) NB101_102.out _).trans (((cell_far (p := ⟨gb102, _, none⟩) NB101_102.out _).trans (((cell_far (p := ⟨gb102, _, none⟩) NB101_102.out _).trans (((cell_far (p := ⟨gb102, _, none⟩) NB101_102.out _).trans (((cell_far (p := ⟨gb102, _, none⟩) NB101_102.out _).trans (((cell_far (p := ⟨gb102, _, none⟩) NB101_102.out _).trans (((cell_far (p := ⟨gb102, _, none⟩) NB101_102.out _).trans (((cell_far (p := ⟨gb102, _, none⟩) NB101_102.out _).trans (((cell_far (p := ⟨gb102, _, none⟩) NB101_102.out _).trans (hHeld.2.2.2.2.2.2.2.1)))))))))))))))))), ((cell_far (p := ⟨gb102, _, none⟩) NB101_102.out _).trans (((cell_far (p := ⟨gb102, _, none⟩) NB101_102.out _).trans (((cell_far (p := ⟨gb102, _, none⟩) NB101_102.out _).trans (((cell_far (p := ⟨gb102, _, none⟩) NB101_102.out _).trans (((cell_far (p := ⟨gb102, _, none⟩) NB101_102.out _).trans (((cell_far (p := ⟨gb102, _, none⟩) NB101_102.out _).trans (((cell_far (p := ⟨gb102, _, none⟩) NB101_102.out _).trans (((cell_far (p := ⟨gb102, _, none⟩) NB101_102.out _).trans (((cell_far (p := ⟨gb102, _, none⟩) NB101_102.out _).trans (hHeld.2.2.2.2.2.2.2.2))))))))))))))))))⟩ (fun hHeld => ?_)
 clear hK K
 refine done_ (done_of HT_.out (by kernel_rfl)) ?_
 try go_wp2
 refine bodyPost_ret (results_cell_row rfl _ _ gb102 41 #[.int .i64 a0_0, .int .u64 a0_1, .int .u64 a0_2, .int .u64 a0_3, .int .u64 a0_4, .slice Ao10 t103.length co10, .slice Ao9 t106.length co9, .slice A0_7 l0_7.length c0_7, .slice A0_8 l0_8.length c0_8] (0, 0) _ rfl (by (repeat with_reducible refine blk_q ?_); refine blk_put (cs := #[.int .i64 a0_0, .int .u64 a0_1, .int .u64 a0_2, .int .u64 a0_3, .int .u64 a0_4, .slice Ao10 t103.length co10, .slice Ao9 t106.length co9, .slice A0_7 l0_7.length c0_7, .slice none 0 0]) ?_ 8 _ rfl; (repeat with_reducible refine blk_q ?_); refine blk_put (cs := #[.int .i64 a0_0, .int .u64 a0_1, .int .u64 a0_2, .int .u64 a0_3, .int .u64 a0_4, .slice Ao10 t103.length co10, .slice Ao9 t106.length co9, .slice none 0 0, .slice none 0 0]) ?_ 7 _ rfl; (repeat with_reducible refine blk_q ?_); refine blk_put (cs := #[.int .i64 a0_0, .int .u64 a0_1, .int .u64 a0_2, .int .u64 a0_3, .int .u64 a0_4, .slice Ao10 t103.length co10, .slice none 0 0, .slice none 0 0, .slice none 0 0]) ?_ 6 _ rfl; (repeat with_reducible refine blk_q ?_); refine blk_put (cs := #[.int .i64 a0_0, .int .u64 a0_1, .int .u64 a0_2, .int .u64 a0_3, .int .u64 a0_4, .slice none 0 0, .slice none 0 0, .slice none 0 0, .slice none 0 0]) ?_ 5 _ rfl; (repeat with_reducible refine blk_q ?_); refine blk_put (cs := #[.int .i64 a0_0, .int .u64 a0_1, .int .u64 a0_2, .int .u64 a0_3, .int .u64 0, .slice none 0 0, .slice none 0 0, .slice none 0 0, .slice none 0 0]) ?_ 4 _ rfl; (repeat with_reducible refine blk_q ?_); refine blk_put (cs := #[.int .i64 a0_0, .int .u64 a0_1, .int .u64 a0_2, .int .u64 0, .int .u64 0, .slice none 0 0, .slice none 0 0, .slice none 0 0, .slice none 0 0]) ?_ 3 _ rfl; (repeat with_reducible refine blk_q ?_); refine blk_put (cs := #[.int .i64 a0_0, .int .u64 a0_1, .int .u64 0, .int .u64 0, .int .u64 0, .slice none 0 0, .slice none 0 0, .slice none 0 0, .slice none 0 0]) ?_ 2 _ rfl; (repeat with_reducible refine blk_q ?_); refine blk_put (cs := #[.int .i64 a0_0, .int .u64 0, .int .u64 0, .int .u64 0, .int .u64 0, .slice none 0 0, .slice none 0 0, .slice none 0 0, .slice none 0 0]) ?_ 1 _ rfl; (repeat with_reducible refine blk_q ?_); refine blk_put (cs := #[.int .i64 0, .int .u64 0, .int .u64 0, .int .u64 0, .int .u64 0, .slice none 0 0, .slice none 0 0, .slice none 0 0, .slice none 0 0]) ?_ 0 _ rfl; (repeat with_reducible refine blk_q ?_); exact BK102.out) Try.underlying41 rfl (by kernel_rfl)) rfl ?_
 exact ⟨_, _, _, _, by first | rfl | (simp [errW_none, errW_some] <;> rfl) | (simp [*, errW_none, errW_some] <;> rfl), by (repeat with_reducible refine Kd.R_q ?_); exact Kd.R_mono (Kd.R_far (p := ⟨gb102, 8, none⟩) (Kd.R_far (p := ⟨gb102, 7, none⟩) (Kd.R_far (p := ⟨gb102, 6, none⟩) (Kd.R_far (p := ⟨gb102, 5, none⟩) (Kd.R_far (p := ⟨gb102, 4, none⟩) (Kd.R_far (p := ⟨gb102, 3, none⟩) (Kd.R_far (p := ⟨gb102, 2, none⟩) (Kd.R_far (p := ⟨gb102, 1, none⟩) (Kd.R_far (p := ⟨gb102, 0, none⟩) (Kd.R_types HO105.out BK102.out (by decide)) (fun _ hk => hk.2) (.int .i64 a0_0)) (fun _ hk => hk.2) (.int .u64 a0_1)) (fun _ hk => hk.2) (.int .u64 a0_2)) (fun _ hk => hk.2) (.int .u64 a0_3)) (fun _ hk => hk.2) (.int .u64 a0_4)) (fun _ hk => hk.2) (.slice Ao10 t103.length co10)) (fun _ hk => hk.2) (.slice Ao9 t106.length co9)) (fun _ hk => hk.2) (.slice A0_7 l0_7.length c0_7)) (fun _ hk => hk.2) (.slice A0_8 l0_8.length c0_8)) (fun _ hk => ⟨hk.1.1.1, hk.1.2⟩), by (repeat with_reducible refine Kd.R_q ?_); exact Kd.R_mono (Kd.R_far (p := ⟨gb102, 8, none⟩) (Kd.R_far (p := ⟨gb102, 7, none⟩) (Kd.R_far (p := ⟨gb102, 6, none⟩) (Kd.R_far (p := ⟨gb102, 5, none⟩) (Kd.R_far (p := ⟨gb102, 4, none⟩) (Kd.R_far (p := ⟨gb102, 3, none⟩) (Kd.R_far (p := ⟨gb102, 2, none⟩) (Kd.R_far (p := ⟨gb102, 1, none⟩) (Kd.R_far (p := ⟨gb102, 0, none⟩) (Kd.R_types HO108.out BK102.out (by decide)) (fun _ hk => hk.2) (.int .i64 a0_0)) (fun _ hk => hk.2) (.int .u64 a0_1)) (fun _ hk => hk.2) (.int .u64 a0_2)) (fun _ hk => hk.2) (.int .u64 a0_3)) (fun _ hk => hk.2) (.int .u64 a0_4)) (fun _ hk => hk.2) (.slice Ao10 t103.length co10)) (fun _ hk => hk.2) (.slice Ao9 t106.length co9)) (fun _ hk => hk.2) (.slice A0_7 l0_7.length c0_7)) (fun _ hk => hk.2) (.slice A0_8 l0_8.length c0_8)) (fun _ hk => ⟨hk.1.1.1, hk.1.2⟩), by (with_reducible repeat (first | apply Kd.V_alloc | apply Kd.V_drewN | apply Kd.V_drew)); exact Kd.V_mono (Kd.V_far (p := ⟨gb102, 8, none⟩) (Kd.V_far (p := ⟨gb102, 7, none⟩) (Kd.V_far (p := ⟨gb102, 6, none⟩) (Kd.V_far (p := ⟨gb102, 5, none⟩) (Kd.V_far (p := ⟨gb102, 4, none⟩) (Kd.V_far (p := ⟨gb102, 3, none⟩) (Kd.V_far (p := ⟨gb102, 2, none⟩) (Kd.V_far (p := ⟨gb102, 1, none⟩) (Kd.V_far (p := ⟨gb102, 0, none⟩) (Kd.V_mono HO0_7.out (fun k_ hk => (⟨hk, hk.1.1.2⟩ : _ ∧ k_ ≠ gb102))) (fun _ hk => hk.2) (.int .i64 a0_0)) (fun _ hk => hk.2) (.int .u64 a0_1)) (fun _ hk => hk.2) (.int .u64 a0_2)) (fun _ hk => hk.2) (.int .u64 a0_3)) (fun _ hk => hk.2) (.int .u64 a0_4)) (fun _ hk => hk.2) (.slice Ao10 t103.length co10)) (fun _ hk => hk.2) (.slice Ao9 t106.length co9)) (fun _ hk => hk.2) (.slice A0_7 l0_7.length c0_7)) (fun _ hk => hk.2) (.slice A0_8 l0_8.length c0_8)) (fun _ hk => ⟨hk.1.1.1.1.1, ⟨hk.1.1.2, hk.1.2⟩⟩), by (with_reducible repeat (first | apply Kd.V_alloc | apply Kd.V_drewN | apply Kd.V_drew)); exact Kd.V_mono (Kd.V_far (p := ⟨gb102, 8, none⟩) (Kd.V_far (p := ⟨gb102, 7, none⟩) (Kd.V_far (p := ⟨gb102, 6, none⟩) (Kd.V_far (p := ⟨gb102, 5, none⟩) (Kd.V_far (p := ⟨gb102, 4, none⟩) (Kd.V_far (p := ⟨gb102, 3, none⟩) (Kd.V_far (p := ⟨gb102, 2, none⟩) (Kd.V_far (p := ⟨gb102, 1, none⟩) (Kd.V_far (p := ⟨gb102, 0, none⟩) (Kd.V_mono HO0_8.out (fun k_ hk => (⟨hk, hk.1.1.2⟩ : _ ∧ k_ ≠ gb102))) (fun _ hk => hk.2) (.int .i64 a0_0)) (fun _ hk => hk.2) (.int .u64 a0_1)) (fun _ hk => hk.2) (.int .u64 a0_2)) (fun _ hk => hk.2) (.int .u64 a0_3)) (fun _ hk => hk.2) (.int .u64 a0_4)) (fun _ hk => hk.2) (.slice Ao10 t103.length co10)) (fun _ hk => hk.2) (.slice Ao9 t106.length co9)) (fun _ hk => hk.2) (.slice A0_7 l0_7.length c0_7)) (fun _ hk => hk.2) (.slice A0_8 l0_8.length c0_8)) (fun _ hk => ⟨hk.1.1.1.1.1, ⟨hk.1.1.2, hk.1.2⟩⟩), by repeat (first | (with_reducible first | exact HB.out | apply below_alloc | apply pw_below_drewN | apply below_drew1 | refine below_set ?_ GE101.out | refine below_set ?_ GE102.out) | exact HB.out)⟩
end Go.Proofs.Ytooiccpmngmapaa.P
namespace Go.Proofs.Ytooiccpmngmapaa.P
open Go.RowKit Go.Shelf Go.Proofs.YtooiccpmngmapaaW.PrintWords Go.Proofs.YtooiccpmngmapaaW.PrintLast Go.Proofs.YtooiccpmngmapaaW.PrintMore
theorem spans25_eq (l : List Sp) (hm : l.length < 8796093022208) (k : Nat) (hk : l.length < k) : tidepolelaw25_spans.f k l = some (l.map toR) := by
  unfold tidepolelaw25_spans.f
  have : ∀ (d k i : Nat), l.length - i = d → d < k → i ≤ l.length → tidepolelaw25_spans.l0 k ((l.take i).map toR) l (l.length : Int) (i : Int) = some (l.map toR) := by
    intro d
    induction d with
    | zero =>
      intro k i hd hk hi
      obtain ⟨k, rfl⟩ : ∃ m, k = m + 1 := ⟨k - 1, by omega⟩
      rw [tidepolelaw25_spans.l0, if_neg (by omega), List.take_of_length_le (by omega)]
    | succ d ih =>
      intro k i hd hk hi
      obtain ⟨k, rfl⟩ : ∃ m, k = m + 1 := ⟨k - 1, by omega⟩
      have hlt : i < l.length := by omega
      have hl1 : ((l.take i).map toR).length = i := by simp; omega
      rw [tidepolelaw25_spans.l0, if_pos (by omega), if_pos (by omega), if_pos (by omega), hl1, rdSp_at hlt, if_pos (by omega), wrap_succ (by omega), ← ih k (i + 1) (by omega) (by omega) (by omega), take_at hlt]
      simp only [List.map_append, List.map_cons, List.map_nil]
      rfl
  exact this l.length k 0 (by omega) hk (by omega)
theorem few25_c (l : List Sp) (hw : wfSps l) : ∃ b : Bool, (b = true → l.length ≤ 400) ∧ ∀ (w : World) (v : Value), SI kSp w v l → Calls Try.prog 72 #[v] w fun e w' => e = .returned (.bool b) ∧ Below w.heap.size w w' := by
  have hl : ∀ (d k i : Nat) (n : Int), 401 - i = d → d < k → i ≤ l.length → (i : Int) ≤ n → n ≤ 400 → ∃ b, tidepolelaw25_few.l0 k n l (l.length : Int) (i : Int) = some b ∧ (b = true → l.length ≤ 400) := by
    intro d
    induction d with
    | zero => intro k i n hd hk hi h0 h1; omega
    | succ d ih =>
      intro k i n hd hk hi h0 h1
      obtain ⟨k, rfl⟩ : ∃ m, k = m + 1 := ⟨k - 1, by omega⟩
      simp only [tidepolelaw25_few.l0]
      by_cases hlt : i < l.length
      · rw [if_pos (by omega), if_pos (by omega), if_pos (by omega), rdSp_at hlt, wrap_succ (by omega)]
        generalize l[i] = s
        have hrec : ∀ m : Int, n + 1 ≤ m → ∃ b, (if m > 400 then some false else tidepolelaw25_few.l0 k m l (l.length : Int) ((i + 1 : Nat) : Int)) = some b ∧ (b = true → l.length ≤ 400) := by
          intro m hm
          by_cases c : m > 400
          · rw [if_pos c]; exact ⟨false, rfl, fun h => by cases h⟩
          · rw [if_neg c]; exact ih k (i + 1) m (by omega) (by omega) (by omega) (by omega) (by omega)
        by_cases c : s.f1 > 0
        · rw [if_pos c]
          have hmn : 0 ≤ mn s.f1 5000 ∧ mn s.f1 5000 ≤ 5000 := by unfold mn; omega
          have ht := Int.tdiv_eq_ediv_of_nonneg (b := 10) hmn.1
          rw [ht]
          refine hrec _ ?_
          rw [wrap_id (x := mn s.f1 5000 / 10) (by omega) (by omega), wrap_id (x := 1 + mn s.f1 5000 / 10) (by omega) (by omega), wrap_id (x := n + (1 + mn s.f1 5000 / 10)) (by omega) (by omega), wrap_id (by omega) (by omega)]
          omega
        · rw [if_neg c]
          refine hrec _ ?_
          rw [wrap_id (by omega) (by omega)]; omega
      · rw [if_neg (by omega)]; exact ⟨true, rfl, fun _ => by omega⟩
  obtain ⟨b, h1, h2⟩ := hl 401 402 0 0 (by omega) (by omega) (by omega) (by omega) (by omega)
  refine ⟨b, h2, fun w v hv => ?_⟩
  obtain ⟨A, c, rfl, hc, hr⟩ := hv
  exact (tidepolelaw25_few.calls 402 A c l b w hr hc h1).mono fun e w1 h => ⟨h.1, h.2⟩
set_option maxHeartbeats 8000000 in
set_option maxRecDepth 100000 in
theorem small25_c (h : Hi) (hw5 : wfSps h.f5) (hw6 : wfSps h.f6) : ∃ b : Bool, (b = true → h.f5.length ≤ 400 ∧ h.f6.length ≤ 400 ∧ h.f7.length ≤ 200 ∧ h.f8.length ≤ 200) ∧ ∀ (w : World) (v : Value), HI w v h → Calls Try.prog 25 #[v] w fun e w' => e = .returned (.bool b) ∧ Below w.heap.size w w' := by
  obtain ⟨b1, hb1, c1⟩ := few25_c h.f5 hw5
  obtain ⟨b2, hb2, c2⟩ := few25_c h.f6 hw6
  have C1 := Aside0.mk c1
  have C2 := Aside0.mk c2
  have hu := Try.underlying29
  clear c1 c2
  cases b1 with
  | false =>
    refine ⟨false, (fun h => nomatch h), fun w v hv => ?_⟩
    obtain ⟨A5, c5, A6, c6, A7, c7, A8, c8, e, h5, h6, h7, h8⟩ := hv.open_
    subst e
    have B := Aside0.mk (below_alloc (Below.refl w.heap.size w) (.cells #[.int .i64 h.f0, .int .u64 h.f1, .int .u64 h.f2, .int .u64 h.f3, .int .u64 h.f4, .slice A5 h.f5.length c5, .slice A6 h.f6.length c6, .slice A7 h.f7.length c7, .slice A8 h.f8.length c8] 29))
    have X := Aside0.mk (Blk.new w #[.int .i64 h.f0, .int .u64 h.f1, .int .u64 h.f2, .int .u64 h.f3, .int .u64 h.f4, .slice A5 h.f5.length c5, .slice A6 h.f6.length c6, .slice A7 h.f7.length c7, .slice A8 h.f8.length c8] 29)
    have hx := fun i => X.out.cell i
    have H5 := Aside0.mk (h5.below B.out)
    have H6 := Aside0.mk (h6.below B.out)
    clear hv h5 h6 h7 h8
    go_enter Try.func25, Try.ntmps25
    go_wp2_with (first | (go_at_call 72; (with_reducible refine (C1.out _ _ H5.out).mono ?_); rintro e W ⟨rfl, hb⟩; replace B := Aside0.mk (below_then B.out B.out.size hb); replace H5 := Aside0.mk (H5.out.below hb); replace H6 := Aside0.mk (H6.out.below hb); replace X := Aside0.mk (X.out.below hb); replace hx := fun i => X.out.cell i; clear  hb))
    go_ret
    exact ⟨rfl, B.out⟩
  | true =>
    have n1 := hb1 rfl
    cases b2 with
    | false =>
      refine ⟨false, (fun h => nomatch h), fun w v hv => ?_⟩
      obtain ⟨A5, c5, A6, c6, A7, c7, A8, c8, e, h5, h6, h7, h8⟩ := hv.open_
      subst e
      have B := Aside0.mk (below_alloc (Below.refl w.heap.size w) (.cells #[.int .i64 h.f0, .int .u64 h.f1, .int .u64 h.f2, .int .u64 h.f3, .int .u64 h.f4, .slice A5 h.f5.length c5, .slice A6 h.f6.length c6, .slice A7 h.f7.length c7, .slice A8 h.f8.length c8] 29))
      have X := Aside0.mk (Blk.new w #[.int .i64 h.f0, .int .u64 h.f1, .int .u64 h.f2, .int .u64 h.f3, .int .u64 h.f4, .slice A5 h.f5.length c5, .slice A6 h.f6.length c6, .slice A7 h.f7.length c7, .slice A8 h.f8.length c8] 29)
      have hx := fun i => X.out.cell i
      have H5 := Aside0.mk (h5.below B.out)
      have H6 := Aside0.mk (h6.below B.out)
      clear hv h5 h6 h7 h8
      go_enter Try.func25, Try.ntmps25
      go_wp2_with (first | (go_at_call 72; (with_reducible refine (C1.out _ _ H5.out).mono ?_); rintro e W ⟨rfl, hb⟩; replace B := Aside0.mk (below_then B.out B.out.size hb); replace H5 := Aside0.mk (H5.out.below hb); replace H6 := Aside0.mk (H6.out.below hb); replace X := Aside0.mk (X.out.below hb); replace hx := fun i => X.out.cell i; clear  hb) | (go_at_call 72; (with_reducible refine (C2.out _ _ H6.out).mono ?_); rintro e W ⟨rfl, hb⟩; replace B := Aside0.mk (below_then B.out B.out.size hb); replace H5 := Aside0.mk (H5.out.below hb); replace H6 := Aside0.mk (H6.out.below hb); replace X := Aside0.mk (X.out.below hb); replace hx := fun i => X.out.cell i; clear  hb))
      go_ret
      exact ⟨rfl, B.out⟩
    | true =>
      have n2 := hb2 rfl
      by_cases c3 : h.f7.length ≤ 200
      · by_cases c4 : h.f8.length ≤ 200
        · refine ⟨true, fun _ => ⟨n1, n2, c3, c4⟩, fun w v hv => ?_⟩
          have d3 : decide ((h.f7.length : Int) ≤ 200) = true := decide_eq_true (by omega)
          have d4 : decide ((h.f8.length : Int) ≤ 200) = true := decide_eq_true (by omega)
          clear n1 n2 hb1 hb2
          obtain ⟨A5, c5, A6, c6, A7, c7, A8, c8, e, h5, h6, h7, h8⟩ := hv.open_
          subst e
          have B := Aside0.mk (below_alloc (Below.refl w.heap.size w) (.cells #[.int .i64 h.f0, .int .u64 h.f1, .int .u64 h.f2, .int .u64 h.f3, .int .u64 h.f4, .slice A5 h.f5.length c5, .slice A6 h.f6.length c6, .slice A7 h.f7.length c7, .slice A8 h.f8.length c8] 29))
          have X := Aside0.mk (Blk.new w #[.int .i64 h.f0, .int .u64 h.f1, .int .u64 h.f2, .int .u64 h.f3, .int .u64 h.f4, .slice A5 h.f5.length c5, .slice A6 h.f6.length c6, .slice A7 h.f7.length c7, .slice A8 h.f8.length c8] 29)
          have hx := fun i => X.out.cell i
          have H5 := Aside0.mk (h5.below B.out)
          have H6 := Aside0.mk (h6.below B.out)
          clear hv h5 h6 h7 h8
          go_enter Try.func25, Try.ntmps25
          go_wp2_with (first | (go_at_call 72; (with_reducible refine (C1.out _ _ H5.out).mono ?_); rintro e W ⟨rfl, hb⟩; replace B := Aside0.mk (below_then B.out B.out.size hb); replace H5 := Aside0.mk (H5.out.below hb); replace H6 := Aside0.mk (H6.out.below hb); replace X := Aside0.mk (X.out.below hb); replace hx := fun i => X.out.cell i; clear  hb) | (go_at_call 72; (with_reducible refine (C2.out _ _ H6.out).mono ?_); rintro e W ⟨rfl, hb⟩; replace B := Aside0.mk (below_then B.out B.out.size hb); replace H5 := Aside0.mk (H5.out.below hb); replace H6 := Aside0.mk (H6.out.below hb); replace X := Aside0.mk (X.out.below hb); replace hx := fun i => X.out.cell i; clear  hb))
          go_ret
          exact ⟨rfl, B.out⟩
        · refine ⟨false, (fun h => nomatch h), fun w v hv => ?_⟩
          have d3 : decide ((h.f7.length : Int) ≤ 200) = true := decide_eq_true (by omega)
          have d4 : decide ((h.f8.length : Int) ≤ 200) = false := decide_eq_false (by omega)
          clear n1 n2 hb1 hb2
          obtain ⟨A5, c5, A6, c6, A7, c7, A8, c8, e, h5, h6, h7, h8⟩ := hv.open_
          subst e
          have B := Aside0.mk (below_alloc (Below.refl w.heap.size w) (.cells #[.int .i64 h.f0, .int .u64 h.f1, .int .u64 h.f2, .int .u64 h.f3, .int .u64 h.f4, .slice A5 h.f5.length c5, .slice A6 h.f6.length c6, .slice A7 h.f7.length c7, .slice A8 h.f8.length c8] 29))
          have X := Aside0.mk (Blk.new w #[.int .i64 h.f0, .int .u64 h.f1, .int .u64 h.f2, .int .u64 h.f3, .int .u64 h.f4, .slice A5 h.f5.length c5, .slice A6 h.f6.length c6, .slice A7 h.f7.length c7, .slice A8 h.f8.length c8] 29)
          have hx := fun i => X.out.cell i
          have H5 := Aside0.mk (h5.below B.out)
          have H6 := Aside0.mk (h6.below B.out)
          clear hv h5 h6 h7 h8
          go_enter Try.func25, Try.ntmps25
          go_wp2_with (first | (go_at_call 72; (with_reducible refine (C1.out _ _ H5.out).mono ?_); rintro e W ⟨rfl, hb⟩; replace B := Aside0.mk (below_then B.out B.out.size hb); replace H5 := Aside0.mk (H5.out.below hb); replace H6 := Aside0.mk (H6.out.below hb); replace X := Aside0.mk (X.out.below hb); replace hx := fun i => X.out.cell i; clear  hb) | (go_at_call 72; (with_reducible refine (C2.out _ _ H6.out).mono ?_); rintro e W ⟨rfl, hb⟩; replace B := Aside0.mk (below_then B.out B.out.size hb); replace H5 := Aside0.mk (H5.out.below hb); replace H6 := Aside0.mk (H6.out.below hb); replace X := Aside0.mk (X.out.below hb); replace hx := fun i => X.out.cell i; clear  hb))
          go_ret
          exact ⟨rfl, B.out⟩
      · refine ⟨false, (fun h => nomatch h), fun w v hv => ?_⟩
        have d3 : decide ((h.f7.length : Int) ≤ 200) = false := decide_eq_false (by omega)
        clear n1 n2 hb1 hb2
        obtain ⟨A5, c5, A6, c6, A7, c7, A8, c8, e, h5, h6, h7, h8⟩ := hv.open_
        subst e
        have B := Aside0.mk (below_alloc (Below.refl w.heap.size w) (.cells #[.int .i64 h.f0, .int .u64 h.f1, .int .u64 h.f2, .int .u64 h.f3, .int .u64 h.f4, .slice A5 h.f5.length c5, .slice A6 h.f6.length c6, .slice A7 h.f7.length c7, .slice A8 h.f8.length c8] 29))
        have X := Aside0.mk (Blk.new w #[.int .i64 h.f0, .int .u64 h.f1, .int .u64 h.f2, .int .u64 h.f3, .int .u64 h.f4, .slice A5 h.f5.length c5, .slice A6 h.f6.length c6, .slice A7 h.f7.length c7, .slice A8 h.f8.length c8] 29)
        have hx := fun i => X.out.cell i
        have H5 := Aside0.mk (h5.below B.out)
        have H6 := Aside0.mk (h6.below B.out)
        clear hv h5 h6 h7 h8
        go_enter Try.func25, Try.ntmps25
        go_wp2_with (first | (go_at_call 72; (with_reducible refine (C1.out _ _ H5.out).mono ?_); rintro e W ⟨rfl, hb⟩; replace B := Aside0.mk (below_then B.out B.out.size hb); replace H5 := Aside0.mk (H5.out.below hb); replace H6 := Aside0.mk (H6.out.below hb); replace X := Aside0.mk (X.out.below hb); replace hx := fun i => X.out.cell i; clear  hb) | (go_at_call 72; (with_reducible refine (C2.out _ _ H6.out).mono ?_); rintro e W ⟨rfl, hb⟩; replace B := Aside0.mk (below_then B.out B.out.size hb); replace H5 := Aside0.mk (H5.out.below hb); replace H6 := Aside0.mk (H6.out.below hb); replace X := Aside0.mk (X.out.below hb); replace hx := fun i => X.out.cell i; clear  hb))
        go_ret
        exact ⟨rfl, B.out⟩
theorem ints25_c (h : Hi) (h5 : h.f5.length < 8796093022208) (h6 : h.f6.length < 8796093022208) (w : World) (v : Value) (hv : HI w v h) : Calls Try.prog 29 #[v] w fun e w' =>
    ∃ v', e = .returned v' ∧ HR w' v' h ∧ Below w.heap.size w w' := by
  obtain ⟨A5, c5, A6, c6, A7, c7, A8, c8, rfl, ⟨_, _, e5, h51, h52⟩, ⟨_, _, e6, h61, h62⟩, ⟨_, _, e7, h71, h72⟩, ⟨_, _, e8, h81, h82⟩⟩ := hv.open_
  cases e5; cases e6; cases e7; cases e8
  obtain ⟨k, hk⟩ : ∃ k, k = h.f5.length + h.f6.length + 1 := ⟨_, rfl⟩
  refine (tidepolelaw25_ints.calls k h.f0 h.f1 h.f2 h.f3 h.f4 A5 c5 h.f5 A6 c6 h.f6 _ A7 c7 h.f7 _ A8 c8 h.f8 h.f0 h.f1 h.f2 h.f3 h.f4 (h.f5.map toR) (h.f6.map toR) h.f7 h.f8 w h52 h51 h62 h61 (SI.V h71 h72) (SI.V h81 h82) ?_).mono ?_
  · unfold tidepolelaw25_ints.f
    rw [spans25_eq _ h5 k (by omega), Option.bind_some, spans25_eq _ h6 k (by omega), Option.bind_some]
  · rintro e w1 ⟨v5, v6, v7, v8, rfl, i5, i6, i7, i8, hb⟩
    exact ⟨_, rfl, ⟨v5, v6, v7, v8, rfl, .of_R i5, .of_R i6, .of_V i7, .of_V i8⟩, hb⟩
def wfI (h : Hi) : Prop := i64 h.f0 ∧ u64 h.f1 ∧ u64 h.f2 ∧ u64 h.f3 ∧ u64 h.f4 ∧ wfSps h.f5 ∧ wfSps h.f6 ∧ i64s h.f7 ∧ i64s h.f8
instance (h : Hi) : Decidable (wfI h) := by unfold wfI; exact inferInstance
theorem wfI_of {x : S29} (h : wf29 x) : wfI x := ⟨i64_of h.1, u64_of h.2.1, u64_of h.2.2.1, u64_of h.2.2.2.1, u64_of h.2.2.2.2.1, wfSps_of h.2.2.2.2.2.1, wfSps_of h.2.2.2.2.2.2.1, i64_all h.2.2.2.2.2.2.2.1, i64_all h.2.2.2.2.2.2.2.2⟩
theorem wfH_of {h : Hi} (x : wfI h) (h7 : h.f7.length ≤ 300) (h8 : h.f8.length ≤ 300) : wfH h := ⟨x.1, x.2.1, x.2.2.1, x.2.2.2.1, x.2.2.2.2.1, x.2.2.2.2.2.1, x.2.2.2.2.2.2.1, x.2.2.2.2.2.2.2.1, x.2.2.2.2.2.2.2.2, by omega, by omega⟩
end Go.Proofs.Ytooiccpmngmapaa.P
namespace Go.Proofs.Ytooiccpmngmapaa.P
open Go.RowKit Go.Proofs.YtooiccpmngmapaaW.PrintWords
theorem build_row {P : Program} {ops : Array Oper} {rest : List Oper} {o : Oper} {a : Act} {w : World} {Q : Exit → Act → World → Prop} (hg : o.guard = none) (t : TypeId) (parts : Array (Nat × Operand)) (ho : o.op = .build t parts)
    (V : Array (Nat × Value)) (hV : (parts.map fun (i, x) => (i, a.eval x)) = V) (cells : Array Value) (hB : P.built t V.toList = some cells) (h : wpList P ops Q rest (a.put o.dst (.agg cells)) w) : wpList P ops Q (o :: rest) a w :=
  wpList_build hg t parts ho (by rw [hV, hB]; rfl) (by rw [hV, hB]; exact h)
set_option maxRecDepth 100000 in
theorem sampleInts_c (w : World) (T : Int) (ONE SMP : Array Value)
    (hB : Try.prog.built 108 [(0, .int .i64 T), (1, .int .i64 0), (2, .agg ONE)] = some SMP) (hs : SMP.size = 20) (hs1 : SMP.all (·.oneCell') = true) (h1 : ONE.size = 9) :
    Calls Try.prog 76 #[.int .i64 T, .agg ONE] w fun e w' => e = .returned (.agg SMP) ∧ Below w.heap.size w w' := by
  have hus := Try.underlying108
  have hu := Try.underlying29
  have X := Aside0.mk (heap_alloc2_old w (.cells ONE 29) (.cells #[.int .i64 0, .int .i64 0, .int .i64 0, .int .u64 0, .int .u64 0, .int .u64 0, .int .u64 0, .slice none 0 0, .slice none 0 0, .slice none 0 0, .slice none 0 0, .int .i64 0, .int .u64 0, .int .u64 0, .int .u64 0, .int .u64 0, .slice none 0 0, .slice none 0 0, .slice none 0 0, .slice none 0 0] 108))
  have Y := Aside0.mk (heap_alloc2_new w (.cells ONE 29) (.cells #[.int .i64 0, .int .i64 0, .int .i64 0, .int .u64 0, .int .u64 0, .int .u64 0, .int .u64 0, .slice none 0 0, .slice none 0 0, .slice none 0 0, .slice none 0 0, .int .i64 0, .int .u64 0, .int .u64 0, .int .u64 0, .int .u64 0, .slice none 0 0, .slice none 0 0, .slice none 0 0, .slice none 0 0] 108))
  go_enter Try.func76, Try.ntmps76
  go_wp2_with (first
    | (refine wpList_load_row rfl 29 (.tmp 3) rfl w.heap.size rfl 29 ONE (0, 0) _ X.out hu rfl (by rw [h1]; kernel_rfl) ?_)
    | (refine build_row rfl 108 #[(0, .tmp 5), (1, .const (.int .i64 0)), (2, .tmp 6)] rfl #[(0, .int .i64 T), (1, .int .i64 0), (2, .agg ONE)] (by simp [go_sem]) SMP hB ?_)
    | (refine wpList_store_row rfl 108 (.tmp 4) (.tmp 7) rfl (w.heap.size + 1) SMP rfl rfl 108 _ Y.out (by rw [hs]; kernel_rfl) (by rw [hs]; rfl) hs1 ?_))
  refine bodyPost_ret (results_cell_row rfl _ _ (w.heap.size + 1) 108 SMP (0, 0) _ rfl (setRow_heap _ _ _ SMP _ _ Y.out) hus rfl (by rw [hs]; kernel_rfl)) rfl ⟨rfl, below_setRow (below_alloc (below_alloc (Below.refl _ _) _) _) (Nat.le_succ _) SMP⟩
theorem load_sub {P : Program} {ops : Array Oper} {rest : List Oper} {o : Oper} {a : Act} {w : World} {Q : Exit → Act → World → Prop} (hgd : o.guard = none) (ty : TypeId) (x : Operand) (ho : o.op = .load ty x)
    (g k : Nat) (hx : a.eval x = .pointer (some ⟨g, k, none⟩)) (t : TypeId) (cs sub : Array Value) (fr : Nat × Nat) (d : TypeDesc) (hg : w.heap[g]? = some (.cells cs t fr))
    (hu : P.underlying ty = some d) (hd : (match d with | .struct _ | .array _ _ => true | _ => false) = true) (hi : (P.info? ty).map (·.size) = some sub.size) (hsub : ∀ j v, sub[j]? = some v → cs[k + j]? = some v)
    (h : wpList P ops Q rest (a.put o.dst (.agg sub)) w) : wpList P ops Q (o :: rest) a w := by
  have hl : (loadCells ⟨g, k, none⟩ sub.toList.length).run P w = .ok sub.toList.toArray w :=
    run_loadCells_list (P := P) w ⟨g, k, none⟩ sub.toList (fun j v hv => by
      have hadd : (⟨g, k, none⟩ : Addr).add j = ⟨g, k + j, none⟩ := by unfold Addr.add; split <;> simp_all
      rw [hadd, cell_of_row w g (k + j) cs t fr hg]
      exact hsub j v (by simpa using hv))
  have hrun : (loadVar ty ⟨g, k, none⟩).run P w = .ok (.agg sub) w := by
    cases hq : P.info? ty with
    | none => simp [hq] at hi
    | some i =>
      have hs : i.size = sub.size := by simpa [hq] using hi
      have hagg : (isAgg ty).run P w = .ok true w := by
        unfold isAgg
        rw [Sem.run_bind, run_underlying hu w]
        cases d <;> simp_all
      simp only [Array.length_toList, Array.toArray_toList] at hl
      simp [loadVar, Sem.run_bind, hagg, sizeOf, typeInfo, hq, hs, hl]
  refine wpList_plain hgd fun K hK => ?_
  unfold Oper.wp execOp
  simp only [ho, hx, Instr.loadAt, Instr.sureAddr, Sem.run_bind, Sem.run_pure, Result.andThen_ok, hrun]
  exact hK _ _ h
theorem sampleCheck_c (w : World) (SMP ONE : Array Value) (c : Int) (h1 : SMP[1]? = some (.int .i64 0)) (hsub : ∀ j v, ONE[j]? = some v → SMP[2 + j]? = some v) (hO : ONE.size = 9)
    (hck : ∀ W, Below w.heap.size w W → Calls Try.prog 31 #[.agg ONE] W fun e w' => e = .returned (.int .i64 c) ∧ Below W.heap.size W w') :
    Calls Try.prog 140 #[.agg SMP] w fun e w' => e = .returned (.int .i64 c) ∧ Below w.heap.size w w' := by
  have hus := Try.underlying108
  have hu := Try.underlying29
  have X := Aside0.mk (heap_alloc_new w (.cells SMP 108))
  have B := Aside0.mk (below_alloc (Below.refl w.heap.size w) (.cells SMP 108))
  have HO := Aside0.mk hO
  have HC := Aside0.mk hck
  have HB := Aside0.mk hsub
  have c1 := (blk_cell X.out 1).trans h1
  clear hO hck hsub h1
  go_enter Try.func140, Try.ntmps140
  go_wp2_with (refine load_sub rfl 29 (.tmp 7) rfl w.heap.size 2 rfl 108 SMP ONE (0, 0) _ X.out hu rfl (by rw [HO.out]; kernel_rfl) HB.out ?_)
  refine (HC.out _ B.out).mono ?_
  rintro e w1 ⟨rfl, hb⟩
  replace B := Aside0.mk (below_then B.out B.out.size hb)
  clear hb
  go_wp2_with fail
  go_ret
  exact ⟨rfl, B.out⟩
theorem scaleSample_c (w : World) (SMP ONE : Array Value) (T tt : Int) (Pst : Array Value → World → Prop) (hpst : ∀ S W W', Pst S W → W.heap.size ≤ W'.heap.size → (∀ k, w.heap.size + 2 ≤ k → k < W.heap.size → W'.heap[k]? = W.heap[k]?) → Pst S W') (h0 : SMP[0]? = some (.int .i64 T)) (h1 : SMP[1]? = some (.int .i64 0)) (hsub : ∀ j v, ONE[j]? = some v → SMP[2 + j]? = some v) (hO : ONE.size = 9) (hs : SMP.size = 20)
    (hck : ∀ W, Below w.heap.size w W → Calls Try.prog 140 #[.agg SMP] W fun e w' => e = .returned (.int .i64 0) ∧ Below W.heap.size W w')
    (hints : ∀ W, Below w.heap.size w W → Calls Try.prog 27 #[.agg ONE, .int .i64 tt] W fun e w' => ∃ RES S2 : Array Value, e = .returned (.tuple #[.agg RES, .int .i64 0]) ∧ RES.size = 9 ∧ RES.all (·.oneCell') = true ∧ Try.prog.built 108 [(0, .int .i64 T), (1, .int .i64 0), (2, .agg RES)] = some S2 ∧ S2.size = 20 ∧ S2.all (·.oneCell') = true ∧ Pst S2 w' ∧ Below W.heap.size W w') :
    Calls Try.prog 75 #[.agg SMP, .int .i64 tt] w fun e w' => ∃ S2, e = .returned (.tuple #[.agg S2, .int .i64 0]) ∧ Pst S2 w' ∧ Below w.heap.size w w' := by
  have hus := Try.underlying108
  have hu := Try.underlying29
  have X := Aside0.mk (heap_alloc2_old w (.cells SMP 108) (.cells #[.int .i64 0, .int .i64 0, .int .i64 0, .int .u64 0, .int .u64 0, .int .u64 0, .int .u64 0, .slice none 0 0, .slice none 0 0, .slice none 0 0, .slice none 0 0, .int .i64 0, .int .u64 0, .int .u64 0, .int .u64 0, .int .u64 0, .slice none 0 0, .slice none 0 0, .slice none 0 0, .slice none 0 0] 108))
  have Y := Aside0.mk (heap_alloc2_new w (.cells SMP 108) (.cells #[.int .i64 0, .int .i64 0, .int .i64 0, .int .u64 0, .int .u64 0, .int .u64 0, .int .u64 0, .slice none 0 0, .slice none 0 0, .slice none 0 0, .slice none 0 0, .int .i64 0, .int .u64 0, .int .u64 0, .int .u64 0, .int .u64 0, .slice none 0 0, .slice none 0 0, .slice none 0 0, .slice none 0 0] 108))
  have B := Aside0.mk (below_alloc (below_alloc (Below.refl w.heap.size w) (.cells SMP 108)) (.cells #[.int .i64 0, .int .i64 0, .int .i64 0, .int .u64 0, .int .u64 0, .int .u64 0, .int .u64 0, .slice none 0 0, .slice none 0 0, .slice none 0 0, .slice none 0 0, .int .i64 0, .int .u64 0, .int .u64 0, .int .u64 0, .int .u64 0, .slice none 0 0, .slice none 0 0, .slice none 0 0, .slice none 0 0] 108))
  have HS := Aside0.mk hs
  have HO := Aside0.mk hO
  have HC := Aside0.mk hck
  have HI_ := Aside0.mk hints
  have HP := Aside0.mk hpst
  have HB := Aside0.mk hsub
  clear hs hO hck hints hpst hsub
  go_enter Try.func75, Try.ntmps75
  go_wp2_with (refine wpList_load_row rfl 108 (.tmp 2) rfl w.heap.size rfl 108 SMP (0, 0) _ X.out hus rfl (by rw [HS.out]; kernel_rfl) ?_)
  refine (HC.out _ B.out).mono ?_
  rintro e w1 ⟨rfl, hb⟩
  replace X := Aside0.mk (blk_below X.out hb)
  replace Y := Aside0.mk (blk_below Y.out hb)
  replace B := Aside0.mk (below_then B.out B.out.size hb)
  clear hb
  have c0 := (blk_cell X.out 0).trans h0
  have c1 := (blk_cell X.out 1).trans h1
  clear h0 h1
  go_wp2_with (refine load_sub rfl 29 (.tmp 21) rfl w.heap.size 2 rfl 108 SMP ONE (0, 0) _ X.out hu rfl (by rw [HO.out]; kernel_rfl) HB.out ?_)
  refine (HI_.out _ B.out).mono ?_
  rintro e w2 ⟨RES, S2, rfl, r1, r2, r3, r4, r5, r6, hb⟩
  have hb2 := below_then hb hb.size (below_alloc (Below.refl w2.heap.size w2) (.cells RES 29))
  replace B := Aside0.mk (below_then B.out B.out.size hb2)
  replace X := Aside0.mk (blk_below X.out hb2)
  replace Y := Aside0.mk (blk_below Y.out hb2)
  have c0' : (w2.alloc (.cells RES 29)).cell? ⟨w.heap.size, 0, none⟩ = some (.int .i64 T) := (hb2.cell (p := ⟨w.heap.size, 0, none⟩) (block_lt_of_cell c0)).trans c0
  have N1 := Aside0.mk (heap_alloc_new w2 (.cells #[.int .i64 0, .int .u64 0, .int .u64 0, .int .u64 0, .int .u64 0, .slice none 0 0, .slice none 0 0, .slice none 0 0, .slice none 0 0] 29))
  have N2 := Aside0.mk (heap_alloc_new w2 (.cells RES 29))
  have hp2 := Aside0.mk (HP.out _ _ _ r6 (below_alloc (Below.refl w2.heap.size w2) (.cells RES 29)).size (fun k _ hk => (below_alloc (Below.refl w2.heap.size w2) (.cells RES 29)).block k hk))
  have R1 := Aside0.mk r1
  have R2 := Aside0.mk r2
  have R3 := Aside0.mk r3
  have R4 := Aside0.mk r4
  have R5 := Aside0.mk r5
  clear c0 c1 hb hb2 r1 r2 r3 r4 r5 r6
  go_wp2_with (first
    | (refine wpList_store_row rfl 29 (.tmp 7) (.tmp 25) rfl w2.heap.size RES rfl rfl 29 _ N1.out (by rw [R1.out]; kernel_rfl) (by rw [R1.out]; rfl) R2.out ?_; rw [World.setRow_alloc_new])
    | (refine wpList_load_row rfl 29 (.tmp 7) rfl w2.heap.size rfl 29 RES (0, 0) _ N2.out hu rfl (by rw [R1.out]; kernel_rfl) ?_))
  refine (sampleInts_c _ T RES S2 R3.out R4.out R5.out R1.out).mono ?_
  rintro e w3 ⟨rfl, hb⟩
  replace B := Aside0.mk (below_then B.out B.out.size hb)
  replace Y := Aside0.mk (blk_below Y.out hb)
  have hp3 := Aside0.mk (HP.out _ _ _ hp2.out hb.size (fun k _ hk => hb.block k hk))
  clear hb c0'
  go_wp2_with (refine wpList_store_row rfl 108 (.tmp 4) (.tmp 34) rfl (w.heap.size + 1) S2 rfl rfl 108 _ Y.out (by rw [R4.out]; kernel_rfl) (by rw [R4.out]; rfl) R5.out ?_)
  have hp4 := HP.out _ (w3) (w3.setRow (w.heap.size + 1) S2) hp3.out (by simp) (fun k h _ => setRow_other _ _ _ _ (by omega))
  refine bodyPost_ret (v := .tuple #[.agg S2, .int .i64 0]) ?_ rfl ⟨S2, rfl, hp4, below_setRow B.out (Nat.le_succ _) S2⟩
  rw [results_cell_tmp (p := 4) (u := 5) (ty := 108) rfl]
  show (((asAddr (.pointer (some ⟨w.heap.size + 1, 0, none⟩))).run Try.prog _).andThen _) = _
  have h1 := run_loadVar_row (P := Try.prog) (w3.setRow (w.heap.size + 1) S2) (w.heap.size + 1) 108 108 S2 (0, 0) _ (setRow_heap _ _ _ S2 _ _ Y.out) hus rfl (by rw [R4.out]; kernel_rfl)
  simp only [asAddr, Sem.run_pure, Result.andThen_ok, h1]
  rfl
end Go.Proofs.Ytooiccpmngmapaa.P
namespace Go.Proofs.Ytooiccpmngmapaa.P
open Go.RowKit Go.Proofs.YtooiccpmngmapaaW.PrintWords Go.Proofs.YtooiccpmngmapaaW.PrintLast Go.Proofs.YtooiccpmngmapaaW.PrintMore
attribute [local go_sem] max2_int min2_int max_two min_two max_three min_three max_four min_four
def pairs_Zip_uint64.l0 : Nat → List Int → List (S192) → List Int → Int → Int → Option ((List (S192)) × Int)
 | 0, _, _, _, _, _ => none
 | k + 1, x1, x8, x26, x27, x28 => if x28 < x27 then (if 0 ≤ x28 then (if x28 < (x26.length : Int) then (if x28 < (x1.length : Int) then (if x8.length < 8796093022208 then (pairs_Zip_uint64.l0 k x1 (x8 ++ [(⟨rd x26 x28, rd x1 x28⟩ : S192)]) x26 x27 (wrap64 (x28 + 1))) else (none)) else (none)) else (none)) else (none)) else (some (x8, 0))
def pairs_Zip_uint64.f (k : Nat) (l0 : List (S113)) (l1 : List Int) : Option ((List (S192)) × Int) := (span_Places.f k l0).bind fun bt101 => (if bt101.2 = 0 then (if (bt101.1.length : Int) = (l1.length : Int) then (pairs_Zip_uint64.l0 k l1 ([] : List (S192)) bt101.1 (bt101.1.length : Int) 0) else (some (([] : List (S192)), 10))) else (some (([] : List (S192)), bt101.2)))
set_option maxHeartbeats 8000000 in
set_option maxRecDepth 100000 in
theorem pairs_Zip_uint64.calls (k : Nat) (A0 : Option Addr) (c0 : Nat) (l0 : List (S113)) (A1 : Option Addr) (c1 : Nat) (l1 : List Int) (r1 : List (S192)) (r2 : Int) (w : World) (hr0 : Kd.C k113 w A0 l0.length l0) (hc0 : l0.length ≤ c0) (hr1 : Kd.C (Kd.int .u64) w A1 l1.length l1) (hc1 : l1.length ≤ c1) (h : pairs_Zip_uint64.f k l0 l1 = some (r1, r2)) :
  Calls Try.prog 175 #[.slice A0 l0.length c0, .slice A1 l1.length c1] w fun e w' => ∃ v0_ : Value, e = .returned (.tuple #[v0_, .int .i64 r2]) ∧ Kd.R k192 192 w' w.heap.size (fun _ => True) v0_ r1 ∧ Below w.heap.size w w' := by
 have hu192 := Try.underlying192
 have HR0 := Aside0.mk hr0
 have HC0 := Aside0.mk hc0
 clear hr0 hc0
 have HR1 := Aside0.mk hr1
 have HC1 := Aside0.mk hc1
 clear hr1 hc1
 have HB := Aside0.mk (Below.refl w.heap.size w)
 have H : ((span_Places.f k l0).bind fun bt101 => (if bt101.2 = 0 then (if (bt101.1.length : Int) = (l1.length : Int) then (pairs_Zip_uint64.l0 k l1 ([] : List (S192)) bt101.1 (bt101.1.length : Int) 0) else (some (([] : List (S192)), 10))) else (some (([] : List (S192)), bt101.2)))) = some (r1, r2) := h
 clear h
 replace H := Option.bind_eq_some_iff.mp H
 obtain ⟨⟨t101, t102⟩, A30, H⟩ := H
 replace H : (if t102 = 0 then (if (t101.length : Int) = (l1.length : Int) then (pairs_Zip_uint64.l0 k l1 ([] : List (S192)) t101 (t101.length : Int) 0) else (some (([] : List (S192)), 10))) else (some (([] : List (S192)), t102))) = some (r1, r2) := H
 have A3 := Aside0.mk A30
 clear A30
 by_cases c4 : t102 = 0
 ·rw [if_pos c4] at H
  have c4b0 : (t102 == 0) = true := beq_iff_eq.mpr c4
  have c4b1 : (t102 != 0) = false := bne_eq_false_iff_eq.mpr c4
  clear c4
  by_cases c5 : (t101.length : Int) = (l1.length : Int)
  ·rw [if_pos c5] at H
   have c5b0 : ((t101.length : Int) == (l1.length : Int)) = true := beq_iff_eq.mpr c5
   have c5b1 : ((t101.length : Int) != (l1.length : Int)) = false := bne_eq_false_iff_eq.mpr c5
   have c5b2 : (t101.length == l1.length) = true := by first | simpa using c5 | (simp at c5 ⊢; omega)
   clear c5
   have H' := Aside0.mk H
   clear H
   go_enter Try.func175, Try.ntmps175
   go_wp2_with (first | ((with_reducible refine gate_callee (f := 181) rfl ?_); refine goesM_ (some 13) Try.func181 #[.slice A0 l0.length c0] ?_; (with_reducible refine (span_Places.calls k _ _ l0 t101 t102 _ ?side1 ?side2 A3.out).mono ?_); (case side1 => exact Kd.C_u HR0.out); (case side2 => exact HC0.out); rintro e w6 ⟨v103, rfl, ho0, hb⟩; refine ⟨_, rfl, ?_⟩; have HO104 := Aside0.mk (Kd.R_lower ho0 (below_size (below_u HB.out))); replace HB := Aside0.mk (below_step (below_u HB.out) hb); (try clear hb); (try clear hb2); (try clear hk); (try clear hi); (try clear ho0); clear A3; obtain ⟨Ao7, co7, eo7⟩ := Kd.R_slice HO104.out; subst eo7))
   go_loopg [8, 28] k (fun kq v8 v28 w' => ∃ (x8_1 : List (S192)) (x28_1 : Int), v28 = .int .i64 x28_1 ∧ Aside0 (pairs_Zip_uint64.l0 kq l1 x8_1 t101 (t101.length : Int) x28_1 = some (r1, r2)) ∧ Aside0 (kq ≤ k) ∧ Aside0 (Kd.R k192 192 w' w.heap.size (fun _ => True) v8 x8_1) ∧ Aside0 (Kd.R (Kd.int .i64) 3 w' w.heap.size (fun _ => True) (.slice Ao7 t101.length co7) t101) ∧ Aside0 (Below w.heap.size w w'))
   case atStart => exact ⟨(([] : List (S192))), (0), (by first | rfl | (simp; done) | (simp [*]; done)), H', ⟨Nat.le_refl _⟩, ⟨by first | exact Kd.R_nil _ _ _ _ _ | exact Kd.N_nil _ _ _ _ _ | exact Kd.V_nil _ _ _ _ _ | exact Kd.Q_nil _ _ _ _ _ | exact Kd.S_nil _ _ _ _ _⟩, ⟨by (repeat with_reducible refine Kd.R_q ?_); exact HO104.out⟩, ⟨by repeat (first | (with_reducible first | exact HB.out | apply below_alloc | apply pw_below_drewN | apply below_drew1) | exact HB.out)⟩⟩
   case round =>
    clear H'
    try clear c1
    try clear p2
    try clear c4
    try clear c4b0
    try clear c4b1
    try clear c5
    try clear c5b0
    try clear c5b1
    try clear c5b2
    obtain ⟨x8_1, x28_1, rfl, HA, HK1, HO_8, HO_26, HB⟩ := hrel
    cases gk with
    | zero => exact absurd HA.out (by simp [pairs_Zip_uint64.l0])
    | succ k1 =>
     have H := HA.out
     clear HA
     simp only [pairs_Zip_uint64.l0] at H
     by_cases c8 : x28_1 < (t101.length : Int)
     ·rw [if_pos c8] at H
      have c8b0 : decide (x28_1 < (t101.length : Int)) = true := decide_eq_true c8
      clear c8
      by_cases c9 : 0 ≤ x28_1
      ·rw [if_pos c9] at H
       have c9b0 : decide (0 ≤ x28_1) = true := decide_eq_true c9
       clear c9
       by_cases c10 : x28_1 < (t101.length : Int)
       ·rw [if_pos c10] at H
        have c10b0 : decide (x28_1 < (t101.length : Int)) = true := decide_eq_true c10
        clear c10
        by_cases c11 : x28_1 < (l1.length : Int)
        ·rw [if_pos c11] at H
         have c11b0 : decide (x28_1 < (l1.length : Int)) = true := decide_eq_true c11
         clear c11
         by_cases c12 : x8_1.length < 8796093022208
         ·rw [if_pos c12] at H
          have LMc12 := Aside0.mk c12
          clear c12
          obtain ⟨y107, hy107⟩ : ∃ y_ : List (S192), y_ = (x8_1 ++ [(⟨rd t101 x28_1, rd l1 x28_1⟩ : S192)]) := ⟨_, rfl⟩
          replace H : (pairs_Zip_uint64.l0 k1 l1 y107 t101 (t101.length : Int) (wrap64 (x28_1 + 1))) = some (r1, r2) := by first | (rw [hy107]; with_reducible exact H) | (have H2_ := (Option.bind_some _ _).symm.trans H; rw [hy107]; with_reducible exact H2_) | (have H2_ := (Option.bind_some _ _).symm.trans H; with_reducible exact H2_) | with_reducible exact H | (rw [hy107]; exact H) | exact H
          have Ny107 := Aside0.mk hy107
          clear hy107
          have H' := Aside0.mk H
          clear H
          have p105 : 0 ≤ (x28_1 : Int) := of_decide_eq_true (by assumption)
          have q105 : x28_1 < (t101.length : Int) := of_decide_eq_true (by assumption)
          obtain ⟨ad105, e105, hx105_0⟩ := Kd.at_int (Kd.R_reads' HO_26.out).2.2 x28_1 p105 q105
          cases e105
          replace p105 := eq_true p105
          replace q105 := eq_true q105
          have p106 : 0 ≤ (x28_1 : Int) := of_decide_eq_true (by assumption)
          have q106 : x28_1 < (l1.length : Int) := of_decide_eq_true (by assumption)
          obtain ⟨ad106, e106, hx106_0⟩ := Kd.at_int HR1.out x28_1 p106 q106
          cases e106
          replace hx106_0 := (HB.out.cell (World.block_lt_of_cell? w _ hx106_0)).trans hx106_0
          replace p106 := eq_true p106
          replace q106 := eq_true q106
          go_wp2_with (first | ((with_reducible refine gate_builtin (b := .append) (xs := #[.tmp 33, .tmp 40]) rfl ?_); at_builtin; refine Kd.R_append k192 (w0 := w) w.heap.size rfl (.tmp 33) (.tmp 40) 129 192 (.agg #[(.int .i64 0), (.int .u64 0)]) 16 rfl Try.underlying129 info192 rfl (by decide) (by omega) u8 x8_1 (⟨rd t101 x28_1, rd l1 x28_1⟩ : S192) [.int .i64 (rd t101 x28_1), .int .u64 (rd l1 x28_1)] (fun _ => True) (fun _ => False) rfl rfl ?aP (fun _ hk => hk.elim) ?aF ?aO ?aB ?aS ?aL ?_; (case aP => exact k192_mkM _ _ _ (⟨rd t101 x28_1, rd l1 x28_1⟩ : S192)); (case aB => exact (below_u HB.out)); (case aF => exact (fun _ _ => trivial)); (case aO => exact (Kd.R_u HO_8.out)); (case aS => exact (below_size (below_u HB.out))); (case aL => have := LMc12.out; omega); intro v108 w13 ho hb hg hat; rw [← Ny107.out] at ho; have n0_ := Aside0.mk (Kd.R_over' (Kd.R_u HO_26.out) (Kd.R_typed (Kd.R_u HO_8.out)) (by decide) hg); have HO109 := Aside0.mk (ho); replace HB := Aside0.mk (hb); clear HO_8; clear HO_26; have HO_26 := n0_; clear n0_; clear ho hb hg hat))
          go_roundg k1
          case measure => have := HK1.out; omega
          case rel => exact ⟨(y107), (wrap64 (x28_1 + 1)), (by first | rfl | (simp; done) | (simp [*]; done)), H', ⟨by have := HK1.out; omega⟩, ⟨by (repeat with_reducible refine Kd.R_q ?_); exact HO109.out⟩, ⟨by (repeat with_reducible refine Kd.R_q ?_); exact HO_26.out⟩, ⟨by repeat (first | (with_reducible first | exact HB.out | apply below_alloc | apply pw_below_drewN | apply below_drew1) | exact HB.out)⟩⟩
         rw [if_neg c12] at H
         exact absurd H (by simp)
        rw [if_neg c11] at H
        exact absurd H (by simp)
       rw [if_neg c10] at H
       exact absurd H (by simp)
      rw [if_neg c9] at H
      exact absurd H (by simp)
     rw [if_neg c8] at H
     have c8b0 : decide (x28_1 < (t101.length : Int)) = false := decide_eq_false c8
     clear c8
     simp only [Option.some.injEq, Prod.mk.injEq] at H
     obtain ⟨rfl, rfl⟩ := H
     go_wp2
     go_ret2
     exact ⟨_, by first | rfl | (simp [errW_none, errW_some] <;> rfl) | (simp [*, errW_none, errW_some] <;> rfl), by (repeat with_reducible refine Kd.R_q ?_); exact HO_8.out, by repeat (first | (with_reducible first | exact HB.out | apply below_alloc | apply pw_below_drewN | apply below_drew1) | exact HB.out)⟩
  rw [if_neg c5] at H
  have c5b0 : ((t101.length : Int) == (l1.length : Int)) = false := beq_eq_false_iff_ne.mpr c5
  have c5b1 : ((t101.length : Int) != (l1.length : Int)) = true := bne_iff_ne.mpr c5
  have c5b2 : (t101.length == l1.length) = false := by first | simpa using c5 | (simp at c5 ⊢; omega)
  simp only [Option.some.injEq, Prod.mk.injEq] at H
  obtain ⟨rfl, rfl⟩ := H
  go_enter Try.func175, Try.ntmps175
  go_wp2_with (first | ((with_reducible refine gate_callee (f := 181) rfl ?_); refine goesM_ (some 13) Try.func181 #[.slice A0 l0.length c0] ?_; (with_reducible refine (span_Places.calls k _ _ l0 t101 t102 _ ?side1 ?side2 A3.out).mono ?_); (case side1 => exact Kd.C_u HR0.out); (case side2 => exact HC0.out); rintro e w14 ⟨v103, rfl, ho0, hb⟩; refine ⟨_, rfl, ?_⟩; have HO104 := Aside0.mk (Kd.R_lower ho0 (below_size (below_u HB.out))); replace HB := Aside0.mk (below_step (below_u HB.out) hb); (try clear hb); (try clear hb2); (try clear hk); (try clear hi); (try clear ho0); clear A3; obtain ⟨Ao15, co15, eo15⟩ := Kd.R_slice HO104.out; subst eo15))
  go_ret2
  exact ⟨_, by first | rfl | (simp [errW_none, errW_some] <;> rfl) | (simp [*, errW_none, errW_some] <;> rfl), by first | exact Kd.R_nil _ _ _ _ _ | exact Kd.N_nil _ _ _ _ _ | exact Kd.V_nil _ _ _ _ _ | exact Kd.Q_nil _ _ _ _ _ | exact Kd.S_nil _ _ _ _ _, by repeat (first | (with_reducible first | exact HB.out | apply below_alloc | apply pw_below_drewN | apply below_drew1) | exact HB.out)⟩
 rw [if_neg c4] at H
 have c4b0 : (t102 == 0) = false := beq_eq_false_iff_ne.mpr c4
 have c4b1 : (t102 != 0) = true := bne_iff_ne.mpr c4
 simp only [Option.some.injEq, Prod.mk.injEq] at H
 obtain ⟨rfl, rfl⟩ := H
 go_enter Try.func175, Try.ntmps175
 go_wp2_with (first | ((with_reducible refine gate_callee (f := 181) rfl ?_); refine goesM_ (some 13) Try.func181 #[.slice A0 l0.length c0] ?_; (with_reducible refine (span_Places.calls k _ _ l0 t101 t102 _ ?side1 ?side2 A3.out).mono ?_); (case side1 => exact Kd.C_u HR0.out); (case side2 => exact HC0.out); rintro e w16 ⟨v103, rfl, ho0, hb⟩; refine ⟨_, rfl, ?_⟩; have HO104 := Aside0.mk (Kd.R_lower ho0 (below_size (below_u HB.out))); replace HB := Aside0.mk (below_step (below_u HB.out) hb); (try clear hb); (try clear hb2); (try clear hk); (try clear hi); (try clear ho0); clear A3))
 go_ret2
 exact ⟨_, by first | rfl | (simp [errW_none, errW_some] <;> rfl) | (simp [*, errW_none, errW_some] <;> rfl), by first | exact Kd.R_nil _ _ _ _ _ | exact Kd.N_nil _ _ _ _ _ | exact Kd.V_nil _ _ _ _ _ | exact Kd.Q_nil _ _ _ _ _ | exact Kd.S_nil _ _ _ _ _, by repeat (first | (with_reducible first | exact HB.out | apply below_alloc | apply pw_below_drewN | apply below_drew1) | exact HB.out)⟩
def pairs_Unzip_uint64.l0 : Nat → List Int → List Int → List (S192) → Int → Int → Option ((List (S113)) × List Int × Int)
 | 0, _, _, _, _, _ => none
 | k + 1, x5, x6, x11, x12, x13 => if x13 < x12 then (if 0 ≤ x13 then (if x13 < (x11.length : Int) then ((some (([(rd_T192 x11 x13).f0] : List Int) : List Int)).bind fun y103 => (if x5.length + y103.length < 17592186044416 then ((some (([(rd_T192 x11 x13).f1] : List Int) : List Int)).bind fun y109 => (if x6.length + y109.length < 17592186044416 then (pairs_Unzip_uint64.l0 k (x5 ++ y103) (x6 ++ y109) x11 x12 (wrap64 (x13 + 1))) else (none))) else (none))) else (none)) else (none)) else ((span_From.f k x5).bind fun bt115 => (if bt115.2 = 0 then (some (bt115.1, x6, 0)) else (some (([] : List (S113)), ([] : List Int), bt115.2))))
def pairs_Unzip_uint64.f (k : Nat) (l0 : List (S192)) : Option ((List (S113)) × List Int × Int) := pairs_Unzip_uint64.l0 k ([] : List Int) ([] : List Int) l0 (l0.length : Int) 0
def pairs_Unzip_uint64.T6 : Bool × List (List Nat × List Nat) := (true, [([], []), ([], []), ([1], [1]), ([2], [2]), ([0, 3], [0, 3]), ([], []), ([], []), ([6], [6]), ([7], [7]), ([5, 8, 4], [5, 8]), ([4, 9, 0, 1, 2, 3, 4], [0, 4]), ([9, 10, 0, 1, 2, 3, 4, 5, 6, 7, 8, 9, 10], [5, 9])])
def pairs_Unzip_uint64.B6 : List Nat := [0, 0, 2, 6, 15, 0, 0, 64, 192, 511, 1023, 2047]
theorem pairs_Unzip_uint64.tab6 : rtab .any (opsOf Try.f147 6) = pairs_Unzip_uint64.T6 := by kernel_rfl
theorem pairs_Unzip_uint64.bits6 : waitsOk pairs_Unzip_uint64.T6.2 pairs_Unzip_uint64.B6 = true := by kernel_rfl
set_option maxHeartbeats 8000000 in
set_option maxRecDepth 100000 in
theorem pairs_Unzip_uint64.calls (k : Nat) (A0 : Option Addr) (c0 : Nat) (l0 : List (S192)) (r1 : List (S113)) (r2 : List Int) (r3 : Int) (w : World) (hr0 : Kd.C k192 w A0 l0.length l0) (hc0 : l0.length ≤ c0) (h : pairs_Unzip_uint64.f k l0 = some (r1, r2, r3)) :
  Calls Try.prog 147 #[.slice A0 l0.length c0] w fun e w' => ∃ v0_ v1_ : Value, e = .returned (.tuple #[v0_, v1_, .int .i64 r3]) ∧ Kd.R k113 113 w' w.heap.size (fun _ => True) v0_ r1 ∧ Kd.R (Kd.int .u64) 25 w' w.heap.size (fun _ => True) v1_ r2 ∧ Below w.heap.size w w' := by
 have hu192 := Try.underlying192
 have HR0 := Aside0.mk hr0
 have HC0 := Aside0.mk hc0
 clear hr0 hc0
 have HB := Aside0.mk (Below.refl w.heap.size w)
 have H : (pairs_Unzip_uint64.l0 k ([] : List Int) ([] : List Int) l0 (l0.length : Int) 0) = some (r1, r2, r3) := h
 clear h
 have H' := Aside0.mk H
 clear H
 go_enter Try.func147, Try.ntmps147
 go_wp2
 go_loopg [5, 6, 13] k (fun kq v5 v6 v13 w' => ∃ (x5_1 : List Int) (x6_1 : List Int) (x13_1 : Int), v13 = .int .i64 x13_1 ∧ Aside0 (pairs_Unzip_uint64.l0 kq x5_1 x6_1 l0 (l0.length : Int) x13_1 = some (r1, r2, r3)) ∧ Aside0 (kq ≤ k) ∧ Aside0 (Kd.R (Kd.int .i64) 3 w' w.heap.size (fun _ => True) v5 x5_1) ∧ Aside0 (Kd.R (Kd.int .u64) 25 w' w.heap.size (fun _ => True) v6 x6_1) ∧ Aside0 (Below w.heap.size w w'))
 case atStart => exact ⟨(([] : List Int)), (([] : List Int)), (0), (by first | rfl | (simp; done) | (simp [*]; done)), H', ⟨Nat.le_refl _⟩, ⟨by first | exact Kd.R_nil _ _ _ _ _ | exact Kd.N_nil _ _ _ _ _ | exact Kd.V_nil _ _ _ _ _ | exact Kd.Q_nil _ _ _ _ _ | exact Kd.S_nil _ _ _ _ _⟩, ⟨by first | exact Kd.R_nil _ _ _ _ _ | exact Kd.N_nil _ _ _ _ _ | exact Kd.V_nil _ _ _ _ _ | exact Kd.Q_nil _ _ _ _ _ | exact Kd.S_nil _ _ _ _ _⟩, ⟨by repeat (first | (with_reducible first | exact HB.out | apply below_alloc | apply pw_below_drewN | apply below_drew1) | exact HB.out)⟩⟩
 case round =>
  clear H'
  try clear c1
  obtain ⟨x5_1, x6_1, x13_1, rfl, HA, HK1, HO_5, HO_6, HB⟩ := hrel
  cases gk with
  | zero => exact absurd HA.out (by simp [pairs_Unzip_uint64.l0])
  | succ k1 =>
   have H := HA.out
   clear HA
   simp only [pairs_Unzip_uint64.l0] at H
   by_cases c2 : x13_1 < (l0.length : Int)
   ·rw [if_pos c2] at H
    have c2b0 : decide (x13_1 < (l0.length : Int)) = true := decide_eq_true c2
    clear c2
    by_cases c3 : 0 ≤ x13_1
    ·rw [if_pos c3] at H
     have c3b0 : decide (0 ≤ x13_1) = true := decide_eq_true c3
     clear c3
     by_cases c4 : x13_1 < (l0.length : Int)
     ·rw [if_pos c4] at H
      have c4b0 : decide (x13_1 < (l0.length : Int)) = true := decide_eq_true c4
      clear c4
      obtain ⟨y103, hy103⟩ : ∃ y_ : List Int, y_ = (([(rd_T192 l0 x13_1).f0] : List Int)) := ⟨_, rfl⟩
      replace H : (if x5_1.length + y103.length < 17592186044416 then ((some (([(rd_T192 l0 x13_1).f1] : List Int) : List Int)).bind fun y109 => (if x6_1.length + y109.length < 17592186044416 then (pairs_Unzip_uint64.l0 k1 (x5_1 ++ y103) (x6_1 ++ y109) l0 (l0.length : Int) (wrap64 (x13_1 + 1))) else (none))) else (none)) = some (r1, r2, r3) := by first | (rw [hy103]; with_reducible exact H) | (have H2_ := (Option.bind_some _ _).symm.trans H; rw [hy103]; with_reducible exact H2_) | (have H2_ := (Option.bind_some _ _).symm.trans H; with_reducible exact H2_) | with_reducible exact H | (rw [hy103]; exact H) | exact H
      have Ny103 := Aside0.mk hy103
      clear hy103
      by_cases c5 : x5_1.length + y103.length < 17592186044416
      ·rw [if_pos c5] at H
       have LMc5 := Aside0.mk c5
       clear c5
       obtain ⟨y106, hy106⟩ : ∃ y_ : List Int, y_ = (x5_1 ++ y103) := ⟨_, rfl⟩
       replace H : ((some (([(rd_T192 l0 x13_1).f1] : List Int) : List Int)).bind fun y109 => (if x6_1.length + y109.length < 17592186044416 then (pairs_Unzip_uint64.l0 k1 y106 (x6_1 ++ y109) l0 (l0.length : Int) (wrap64 (x13_1 + 1))) else (none))) = some (r1, r2, r3) := by first | (rw [hy106]; with_reducible exact H) | (have H2_ := (Option.bind_some _ _).symm.trans H; rw [hy106]; with_reducible exact H2_) | (have H2_ := (Option.bind_some _ _).symm.trans H; with_reducible exact H2_) | with_reducible exact H | (rw [hy106]; exact H) | exact H
       have Ny106 := Aside0.mk hy106
       clear hy106
       obtain ⟨y109, hy109⟩ : ∃ y_ : List Int, y_ = (([(rd_T192 l0 x13_1).f1] : List Int)) := ⟨_, rfl⟩
       replace H : (if x6_1.length + y109.length < 17592186044416 then (pairs_Unzip_uint64.l0 k1 y106 (x6_1 ++ y109) l0 (l0.length : Int) (wrap64 (x13_1 + 1))) else (none)) = some (r1, r2, r3) := by first | (rw [hy109]; with_reducible exact H) | (have H2_ := (Option.bind_some _ _).symm.trans H; rw [hy109]; with_reducible exact H2_) | (have H2_ := (Option.bind_some _ _).symm.trans H; with_reducible exact H2_) | with_reducible exact H | (rw [hy109]; exact H) | exact H
       have Ny109 := Aside0.mk hy109
       clear hy109
       by_cases c6 : x6_1.length + y109.length < 17592186044416
       ·rw [if_pos c6] at H
        have LMc6 := Aside0.mk c6
        clear c6
        obtain ⟨y112, hy112⟩ : ∃ y_ : List Int, y_ = (x6_1 ++ y109) := ⟨_, rfl⟩
        replace H : (pairs_Unzip_uint64.l0 k1 y106 y112 l0 (l0.length : Int) (wrap64 (x13_1 + 1))) = some (r1, r2, r3) := by first | (rw [hy112]; with_reducible exact H) | (have H2_ := (Option.bind_some _ _).symm.trans H; rw [hy112]; with_reducible exact H2_) | (have H2_ := (Option.bind_some _ _).symm.trans H; with_reducible exact H2_) | with_reducible exact H | (rw [hy112]; exact H) | exact H
        have Ny112 := Aside0.mk hy112
        clear hy112
        have H' := Aside0.mk H
        clear H
        have p101 : 0 ≤ (x13_1 : Int) := of_decide_eq_true (by assumption)
        have q101 : x13_1 < (l0.length : Int) := of_decide_eq_true (by assumption)
        obtain ⟨ad101, e101, hx101_0, hx101_1⟩ := at_T192 HR0.out x13_1 p101 q101
        cases e101
        replace hx101_0 := (HB.out.cell (World.block_lt_of_cell? w _ hx101_0)).trans hx101_0
        replace hx101_1 := (HB.out.cell (World.block_lt_of_cell? w _ hx101_1)).trans hx101_1
        replace p101 := eq_true p101
        replace q101 := eq_true q101
        try go_wp2_with (first | ((with_reducible refine gate_dst (N := 8) rfl ?_); refine box_event ?hg (N := 8) ?hd (cs := #[.int .i64 0, .int .u64 0]) (t := 192) ?hr ?_; (case hd => rfl); (case hg => rfl); (case hr => first | (go_simp; done) | (go_simp; rfl)); intro gb102 hg w7 hbox hb; have BK102 := Aside0.mk (hbox); have GW102 := Aside0.mk ((by rw [hg]; exact (below_size (below_u HB.out)) : w.heap.size ≤ gb102)); have GE102 := Aside0.mk ((by rw [hg]; exact (below_size (below_u HB.out)) : w.heap.size ≤ gb102)); replace HO_5 := Aside0.mk (Kd.R_ub HO_5.out hb); replace HO_6 := Aside0.mk (Kd.R_ub HO_6.out hb); replace HB := Aside0.mk (below_step (below_u HB.out) hb); clear hb hbox hg; have hcz8_0 := blk_cell BK102.out; have hfz8_0 := blk_frozen BK102.out; obtain ⟨Ao9, co9, eo9⟩ := Kd.R_slice HO_5.out; subst eo9; obtain ⟨Ao10, co10, eo10⟩ := Kd.R_slice HO_6.out; subst eo10))
        have n0_ : Aside0 (Kd.R (Kd.int .i64) 3 ((w7.setCell ⟨gb102, 0, none⟩ (.int .i64 ((rd_T192 l0 x13_1).f0))).setCell ⟨gb102, 1, none⟩ (.int .u64 ((rd_T192 l0 x13_1).f1))) w.heap.size (fun _ => True) (.slice Ao9 x5_1.length co9) x5_1) := ⟨by (repeat with_reducible refine Kd.R_q ?_); exact Kd.R_mono (Kd.R_far (p := ⟨gb102, 1, none⟩) (Kd.R_far (p := ⟨gb102, 0, none⟩) (Kd.R_types HO_5.out BK102.out (by decide)) (fun _ hk => hk.2) (.int .i64 ((rd_T192 l0 x13_1).f0))) (fun _ hk => hk.2) (.int .u64 ((rd_T192 l0 x13_1).f1))) (fun _ hk => trivial)⟩
        have n1_ : Aside0 (Kd.R (Kd.int .u64) 25 ((w7.setCell ⟨gb102, 0, none⟩ (.int .i64 ((rd_T192 l0 x13_1).f0))).setCell ⟨gb102, 1, none⟩ (.int .u64 ((rd_T192 l0 x13_1).f1))) w.heap.size (fun _ => True) (.slice Ao10 x6_1.length co10) x6_1) := ⟨by (repeat with_reducible refine Kd.R_q ?_); exact Kd.R_mono (Kd.R_far (p := ⟨gb102, 1, none⟩) (Kd.R_far (p := ⟨gb102, 0, none⟩) (Kd.R_types HO_6.out BK102.out (by decide)) (fun _ hk => hk.2) (.int .i64 ((rd_T192 l0 x13_1).f0))) (fun _ hk => hk.2) (.int .u64 ((rd_T192 l0 x13_1).f1))) (fun _ hk => trivial)⟩
        have n2_ : Aside0 (((w7.setCell ⟨gb102, 0, none⟩ (.int .i64 ((rd_T192 l0 x13_1).f0))).setCell ⟨gb102, 1, none⟩ (.int .u64 ((rd_T192 l0 x13_1).f1))).heap[gb102]? = some (.cells #[.int .i64 ((rd_T192 l0 x13_1).f0), .int .u64 ((rd_T192 l0 x13_1).f1)] 192 (0, 0))) := ⟨by (repeat with_reducible refine blk_q ?_); refine blk_put (cs := #[.int .i64 ((rd_T192 l0 x13_1).f0), .int .u64 0]) ?_ 1 _ rfl; (repeat with_reducible refine blk_q ?_); refine blk_put (cs := #[.int .i64 0, .int .u64 0]) ?_ 0 _ rfl; (repeat with_reducible refine blk_q ?_); exact BK102.out⟩
        have n3_ : Aside0 (Below w.heap.size w ((w7.setCell ⟨gb102, 0, none⟩ (.int .i64 ((rd_T192 l0 x13_1).f0))).setCell ⟨gb102, 1, none⟩ (.int .u64 ((rd_T192 l0 x13_1).f1)))) := ⟨by repeat (first | (with_reducible first | exact HB.out | apply below_alloc | apply pw_below_drewN | apply below_drew1 | refine below_set ?_ GE102.out) | exact HB.out)⟩
        (try clear HO_5)
        (try clear HO_6)
        (try clear BK102)
        (try clear HB)
        generalize ((w7.setCell ⟨gb102, 0, none⟩ (.int .i64 ((rd_T192 l0 x13_1).f0))).setCell ⟨gb102, 1, none⟩ (.int .u64 ((rd_T192 l0 x13_1).f1))) = w11 at n0_ n1_ n2_ n3_ ⊢
        have HO_5 := n0_
        have HO_6 := n1_
        have BK102 := n2_
        have HB := n3_
        clear n0_ n1_ n2_ n3_
        have n0_ := Aside0.mk (Kd.R_drew HO_5.out)
        have n1_ := Aside0.mk (Kd.R_drew HO_6.out)
        have n2_ := Aside0.mk (blk_drew BK102.out)
        have n3_ := Aside0.mk (below_drew1 HB.out)
        clear HO_5
        clear HO_6
        clear BK102
        clear HB
        have HO_5 := n0_
        have HO_6 := n1_
        have BK102 := n2_
        have HB := n3_
        clear n0_ n1_ n2_ n3_
        refine start_ (n := 12) (S := fun w' => w'.cell? ⟨gb102, 0, none⟩ = some (.int .i64 ((rd_T192 l0 x13_1).f0)) ∧ w'.cell? ⟨gb102, 1, none⟩ = some (.int .u64 ((rd_T192 l0 x13_1).f1))) (ds := []) #[false, false, false, false, false, false, false, false, false, false, false, false] (by kernel_rfl) rfl rfl ⟨(blk_cell BK102.out 0).trans rfl, (blk_cell BK102.out 1).trans rfl⟩ (fun hHeld => ?_); refine with_tabW pairs_Unzip_uint64.tab6 pairs_Unzip_uint64.bits6 (fun HT_ HW_ => ?_)
        generalize w11.drew = w12 at HO_5 HO_6 BK102 HB hHeld ⊢
        refine pure_ (i := 0) (N := some 17) (v := ?_) (a' := ?_) #[true, false, false, false, false, false, false, false, false, false, false, false] rfl rfl (any_of HT_.out (by kernel_rfl)) (fun _ _ _ h => h) (Or.inl ⟨by rfl, ?_⟩) ?_ ?_
        rotate_left
        ·intro w'
         go_simp
         with_reducible rfl
        rotate_left
        ·simp only [Act.put, List.setIfInBounds_toArray, List.set_cons_zero, List.set_cons_succ, i64_w, i32_w]
         rfl
        refine pure_ (i := 1) (N := some 18) (v := ?_) (a' := ?_) #[true, true, false, false, false, false, false, false, false, false, false, false] rfl rfl (any_of HT_.out (by kernel_rfl)) (fun _ _ _ h => h) (Or.inl ⟨by rfl, ?_⟩) ?_ ?_
        rotate_left
        ·intro w'
         go_simp
         with_reducible rfl
        rotate_left
        ·simp only [Act.put, List.setIfInBounds_toArray, List.set_cons_zero, List.set_cons_succ, i64_w, i32_w]
         rfl
        refine pure_ (i := 5) (N := some 22) (v := ?_) (a' := ?_) #[true, true, false, false, false, true, false, false, false, false, false, false] rfl rfl (any_of HT_.out (by kernel_rfl)) (fun _ _ _ h => h) (Or.inl ⟨by rfl, ?_⟩) ?_ ?_
        rotate_left
        ·intro w'
         go_simp
         with_reducible rfl
        rotate_left
        ·simp only [Act.put, List.setIfInBounds_toArray, List.set_cons_zero, List.set_cons_succ, i64_w, i32_w]
         rfl
        refine pure_ (i := 6) (N := some 23) (v := ?_) (a' := ?_) #[true, true, false, false, false, true, true, false, false, false, false, false] rfl rfl (any_of HT_.out (by kernel_rfl)) (fun _ _ _ h => h) (Or.inl ⟨by rfl, ?_⟩) ?_ ?_
        rotate_left
        ·intro w'
         go_simp
         with_reducible rfl
        rotate_left
        ·simp only [Act.put, List.setIfInBounds_toArray, List.set_cons_zero, List.set_cons_succ, i64_w, i32_w]
         rfl
        refine take_ (i := 2) (N := some 19) (v := ?_) (a' := ?_) #[true, true, true, false, false, true, true, false, false, false, false, false] rfl rfl (take_ofW HT_.out HW_.out (by kernel_rfl)) (fun _ _ _ h => h) (Or.inl ⟨by rfl, ?_⟩) hHeld ?_ ?_
        rotate_left
        ·rintro w' ⟨s0, s1⟩
         go_simp
         with_reducible rfl
        rotate_left
        ·simp only [Act.put, List.setIfInBounds_toArray, List.set_cons_zero, List.set_cons_succ, i64_w, i32_w]
         rfl
        refine take_ (i := 7) (N := some 24) (v := ?_) (a' := ?_) #[true, true, true, false, false, true, true, true, false, false, false, false] rfl rfl (take_ofW HT_.out HW_.out (by kernel_rfl)) (fun _ _ _ h => h) (Or.inl ⟨by rfl, ?_⟩) hHeld ?_ ?_
        rotate_left
        ·rintro w' ⟨s0, s1⟩
         go_simp
         with_reducible rfl
        rotate_left
        ·simp only [Act.put, List.setIfInBounds_toArray, List.set_cons_zero, List.set_cons_succ, i64_w, i32_w]
         rfl
        refine join_ (σ := Value × Value × Value) 3 #[true, true, true, true, true, true, true, true, true, false, false, false] (fun s_ => [(20, s_.1), (21, s_.2.1), (25, s_.2.2)]) (fun s_ w' => (w'.cell? ⟨gb102, 0, none⟩ = some (.int .i64 ((rd_T192 l0 x13_1).f0)) ∧ w'.cell? ⟨gb102, 1, none⟩ = some (.int .u64 ((rd_T192 l0 x13_1).f1))) ∧ (Kd.R (Kd.int .i64) 3 w' w.heap.size (fun k_ => some k_ ≠ (s_.2.1 : Value).ownBlock) s_.1 y103) ∧ (Kd.R (Kd.int .i64) 3 w' w.heap.size (fun k_ => some k_ ≠ (s_.1 : Value).ownBlock) s_.2.1 y106) ∧ (Kd.R (Kd.int .u64) 25 w' w.heap.size (fun k_ => some k_ ≠ (.slice Ao10 x6_1.length co10 : Value).ownBlock) s_.2.2 y109) ∧ (Kd.R (Kd.int .u64) 25 w' w.heap.size (fun k_ => some k_ ≠ (s_.2.2 : Value).ownBlock) (.slice Ao10 x6_1.length co10) x6_1) ∧ (w'.heap[gb102]? = some (.cells #[.int .i64 ((rd_T192 l0 x13_1).f0), .int .u64 ((rd_T192 l0 x13_1).f1)] 192 (0, 0))) ∧ (Below w.heap.size w w')) ?_ ?_
        rotate_left
        ·intro hCont
         refine two_ (i := 3) (j := 8) (Ni := some 20) (Nj := some 25) #[true, true, true, true, false, true, true, true, false, false, false, false] #[true, true, true, false, false, true, true, true, true, false, false, false] rfl rfl rfl rfl (two_of HT_.out (by kernel_rfl)) (by decide) (by decide) (fun K hK => ?_) (fun K hK => ?_)
         ·skip
          refine Kd.R_lit_step (Kd.int .i64) _ 3 ?hg (N := 20) ?hd (xs := ([(rd_T192 l0 x13_1).f0] : List Int)) (inner := [.int .i64 ((rd_T192 l0 x13_1).f0)]) (ok := fun _ => True) (okp := fun _ => True) ?hr ?hp (fun _ hk => hk) trivial (Below.refl _ _) (Nat.le_refl _) (by simp) ?_; (case hd => rfl); (case hg => rfl); (case hr => first | (go_simp; done) | (go_simp; rfl)); (case hp => exact (Reps.one (show Kd.M (Kd.int .i64) _ _ _ ((rd_T192 l0 x13_1).f0) [.int .i64 ((rd_T192 l0 x13_1).f0)] from rfl) (Reps.none _ _)))
          intro v104 w13 ho14 hb hg_ hnew_
          clear hg_ hnew_
          (first | rw [← Ny103.out] at ho14 | (simp only [Int.reduceToNat] at ho14; rw [← Ny103.out] at ho14))
          have n0_ := Aside0.mk (Kd.R_elder' (Kd.R_u HO_5.out) (Kd.R_base ho14) hb)
          have n1_ := Aside0.mk (Kd.R_ub HO_6.out hb)
          have n2_ := Aside0.mk (Kd.R_lower (Kd.R_new' ho14 (Kd.R_lt (Kd.R_u HO_5.out))) (below_size (by repeat (first | (with_reducible first | exact HB.out | refine below_q ?_ | refine below_set ?_ GE102.out) | exact HB.out))))
          have n3_ := Aside0.mk (blk_ub BK102.out hb)
          have n4_ := Aside0.mk (below_step (by repeat (first | (with_reducible first | exact HB.out | refine below_q ?_ | refine below_set ?_ GE102.out) | exact HB.out)) hb)
          clear HO_5
          clear HO_6
          clear BK102
          clear HB
          have HO_5 := n0_
          have HO_6 := n1_
          have HO105 := n2_
          have BK102 := n3_
          have HB := n4_
          clear n0_ n1_ n2_ n3_ n4_
          clear hb ho14
          obtain ⟨Ao16, co16, eo16⟩ := Kd.R_slice HO105.out
          (first | subst eo16 | (injection eo16 with f1_ f2_ f3_; have f4_ := f1_.symm; have f5_ := f3_.symm; clear f1_ f2_ f3_; subst f4_; subst f5_))
          refine hK.out _ _ ⟨(blk_cell BK102.out 0).trans rfl, (blk_cell BK102.out 1).trans rfl⟩ (fun hHeld => ?_)
          clear hK K
          refine norm_ (a' := ?_) ?_ ?_
          rotate_left
          ·show Act.put _ (some 20) _ = _
           simp only [Act.put, List.setIfInBounds_toArray, List.set_cons_zero, List.set_cons_succ, i64_w, i32_w]
           rfl
          refine two_ (i := 4) (j := 8) (Ni := some 21) (Nj := some 25) #[true, true, true, true, true, true, true, true, false, false, false, false] #[true, true, true, true, false, true, true, true, true, false, false, false] rfl rfl rfl rfl (two_of HT_.out (by kernel_rfl)) (by decide) (by decide) (fun K hK => ?_) (fun K hK => ?_)
          ·skip
           refine Kd.R_append_rows_step (Kd.int .i64) (w0 := w) w.heap.size (by rfl) (.tmp 17) (.tmp 20) 30 3 (.int .i64 0) 8 rfl Try.underlying30 info3 rfl (by decide) (by omega) (.slice Ao9 x5_1.length co9) x5_1 y103 _ _ _ (fun k_ => some k_ ≠ (.slice Ao16 y103.length co16 : Value).ownBlock) (fun _ => False) rfl rfl ?aO ?aR (fun _ _ h => h) (fun _ h => h.elim) ?aF ?aB ?aS ?aL ?_
           (case aR => exact Kd.C_u (Kd.R_reads' HO105.out).2.2)
           (case aB => exact (by repeat (first | (with_reducible first | exact HB.out | refine below_q ?_ | refine below_set ?_ GE102.out) | exact HB.out)))
           (case aF => exact (fun k_ hk => Kd.fresh' (Kd.R_lt (Kd.R_u HO105.out)) k_ hk))
           (case aO => exact (Kd.R_u (Kd.R_mono HO_5.out (fun _ hk => hk.2))))
           (case aS => exact (below_size (by repeat (first | (with_reducible first | exact HB.out | refine below_q ?_ | refine below_set ?_ GE102.out) | exact HB.out))))
           (case aL => have := LMc5.out; omega)
           intro v107 w15 ho hb hg hat
           rw [← Ny106.out] at ho
           have n0_ := Aside0.mk (Kd.R_over' (Kd.R_u HO_6.out) (Kd.R_typed (Kd.R_u HO_5.out)) (by decide) hg)
           have n1_ := Aside0.mk (blk_grown (g := gb102) (o := .cells #[.int .i64 ((rd_T192 l0 x13_1).f0), .int .u64 ((rd_T192 l0 x13_1).f1)] 192 (0, 0)) (blk_u BK102.out) hg (Kd.R_ne HO_5.out BK102.out (by decide)))
           have n2_ := Aside0.mk (Kd.R_after (ok := (fun _ => True)) (Kd.R_u HO105.out) hg hat)
           have n3_ := Aside0.mk (hb)
           have n4_ := Aside0.mk (ho)
           clear HO_6
           clear BK102
           clear HO105
           clear HB
           clear HO_5
           have HO_6 := n0_
           have BK102 := n1_
           have HO105 := n2_
           have HB := n3_
           have HO108 := n4_
           clear n0_ n1_ n2_ n3_ n4_
           clear ho hb hg hat
           refine hK.out _ _ ⟨(blk_cell BK102.out 0).trans rfl, (blk_cell BK102.out 1).trans rfl⟩ (fun hHeld => ?_)
           clear hK K
           refine norm_ (a' := ?_) ?_ ?_
           rotate_left
           ·show Act.put _ (some 21) _ = _
            simp only [Act.put, List.setIfInBounds_toArray, List.set_cons_zero, List.set_cons_succ, i64_w, i32_w]
            rfl
           refine one_ (i := 8) (N := some 25) #[true, true, true, true, true, true, true, true, true, false, false, false] rfl rfl (one_of HT_.out (by kernel_rfl)) (by decide) (fun K hK => ?_)
           refine Kd.R_lit_step (Kd.int .u64) _ 25 ?hg (N := 25) ?hd (xs := ([(rd_T192 l0 x13_1).f1] : List Int)) (inner := [.int .u64 ((rd_T192 l0 x13_1).f1)]) (ok := fun _ => True) (okp := fun _ => True) ?hr ?hp (fun _ hk => hk) trivial (Below.refl _ _) (Nat.le_refl _) (by simp) ?_; (case hd => rfl); (case hg => rfl); (case hr => first | (go_simp; done) | (go_simp; rfl)); (case hp => exact (Reps.one (show Kd.M (Kd.int .u64) _ _ _ ((rd_T192 l0 x13_1).f1) [.int .u64 ((rd_T192 l0 x13_1).f1)] from rfl) (Reps.none _ _)))
           intro v110 w17 ho18 hb hg_ hnew_
           clear hg_ hnew_
           (first | rw [← Ny109.out] at ho18 | (simp only [Int.reduceToNat] at ho18; rw [← Ny109.out] at ho18))
           have n0_ := Aside0.mk (Kd.R_elder' (Kd.R_u HO_6.out) (Kd.R_base ho18) hb)
           have n1_ := Aside0.mk (Kd.R_ub HO105.out hb)
           have n2_ := Aside0.mk (Kd.R_ub HO108.out hb)
           have n3_ := Aside0.mk (Kd.R_lower (Kd.R_new' ho18 (Kd.R_lt (Kd.R_u HO_6.out))) (below_size (by repeat (first | (with_reducible first | exact HB.out | refine below_q ?_ | refine below_set ?_ GE102.out) | exact HB.out))))
           have n4_ := Aside0.mk (blk_ub BK102.out hb)
           have n5_ := Aside0.mk (below_step (by repeat (first | (with_reducible first | exact HB.out | refine below_q ?_ | refine below_set ?_ GE102.out) | exact HB.out)) hb)
           clear HO_6
           clear HO105
           clear HO108
           clear BK102
           clear HB
           have HO_6 := n0_
           have HO105 := n1_
           have HO108 := n2_
           have HO111 := n3_
           have BK102 := n4_
           have HB := n5_
           clear n0_ n1_ n2_ n3_ n4_ n5_
           clear hb ho18
           refine hK.out _ _ ⟨(blk_cell BK102.out 0).trans rfl, (blk_cell BK102.out 1).trans rfl⟩ (fun hHeld => ?_)
           clear hK K
           refine norm_ (a' := ?_) ?_ ?_
           rotate_left
           ·show Act.put _ (some 25) _ = _
            simp only [Act.put, List.setIfInBounds_toArray, List.set_cons_zero, List.set_cons_succ, i64_w, i32_w]
            rfl
           exact norm_ (by simp only [putAll, Act.put, List.setIfInBounds_toArray, List.set_cons_zero, List.set_cons_succ]) (hCont (.slice Ao16 y103.length co16, v107, v110) _ ⟨hHeld, (Kd.R_u (Kd.R_mono HO105.out (fun _ hk => hk.2))), (Kd.R_u HO108.out), (Kd.R_u (Kd.R_mono HO111.out (fun _ hk => hk.2))), (Kd.R_u (Kd.R_mono HO_6.out (fun _ hk => hk.2))), (blk_u BK102.out), (by repeat (first | (with_reducible first | exact HB.out | refine below_q ?_ | refine below_set ?_ GE102.out) | exact HB.out))⟩)
          skip
          refine Kd.R_lit_step (Kd.int .u64) _ 25 ?hg (N := 25) ?hd (xs := ([(rd_T192 l0 x13_1).f1] : List Int)) (inner := [.int .u64 ((rd_T192 l0 x13_1).f1)]) (ok := fun _ => True) (okp := fun _ => True) ?hr ?hp (fun _ hk => hk) trivial (Below.refl _ _) (Nat.le_refl _) (by simp) ?_; (case hd => rfl); (case hg => rfl); (case hr => first | (go_simp; done) | (go_simp; rfl)); (case hp => exact (Reps.one (show Kd.M (Kd.int .u64) _ _ _ ((rd_T192 l0 x13_1).f1) [.int .u64 ((rd_T192 l0 x13_1).f1)] from rfl) (Reps.none _ _)))
          intro v110 w15 ho16 hb hg_ hnew_
          clear hg_ hnew_
          (first | rw [← Ny109.out] at ho16 | (simp only [Int.reduceToNat] at ho16; rw [← Ny109.out] at ho16))
          have n0_ := Aside0.mk (Kd.R_ub HO_5.out hb)
          have n1_ := Aside0.mk (Kd.R_elder' (Kd.R_u HO_6.out) (Kd.R_base ho16) hb)
          have n2_ := Aside0.mk (Kd.R_ub HO105.out hb)
          have n3_ := Aside0.mk (Kd.R_lower (Kd.R_new' ho16 (Kd.R_lt (Kd.R_u HO_6.out))) (below_size (by repeat (first | (with_reducible first | exact HB.out | refine below_q ?_ | refine below_set ?_ GE102.out) | exact HB.out))))
          have n4_ := Aside0.mk (blk_ub BK102.out hb)
          have n5_ := Aside0.mk (below_step (by repeat (first | (with_reducible first | exact HB.out | refine below_q ?_ | refine below_set ?_ GE102.out) | exact HB.out)) hb)
          clear HO_5
          clear HO_6
          clear HO105
          clear BK102
          clear HB
          have HO_5 := n0_
          have HO_6 := n1_
          have HO105 := n2_
          have HO111 := n3_
          have BK102 := n4_
          have HB := n5_
          clear n0_ n1_ n2_ n3_ n4_ n5_
          clear hb ho16
          obtain ⟨Ao18, co18, eo18⟩ := Kd.R_slice HO105.out
          (first | subst eo18 | (injection eo18 with f1_ f2_ f3_; have f4_ := f1_.symm; have f5_ := f3_.symm; clear f1_ f2_ f3_; subst f4_; subst f5_))
          refine hK.out _ _ ⟨(blk_cell BK102.out 0).trans rfl, (blk_cell BK102.out 1).trans rfl⟩ (fun hHeld => ?_)
          clear hK K
          refine norm_ (a' := ?_) ?_ ?_
          rotate_left
          ·show Act.put _ (some 25) _ = _
           simp only [Act.put, List.setIfInBounds_toArray, List.set_cons_zero, List.set_cons_succ, i64_w, i32_w]
           rfl
          refine one_ (i := 4) (N := some 21) #[true, true, true, true, true, true, true, true, true, false, false, false] rfl rfl (one_of HT_.out (by kernel_rfl)) (by decide) (fun K hK => ?_)
          refine Kd.R_append_rows_step (Kd.int .i64) (w0 := w) w.heap.size (by rfl) (.tmp 17) (.tmp 20) 30 3 (.int .i64 0) 8 rfl Try.underlying30 info3 rfl (by decide) (by omega) (.slice Ao9 x5_1.length co9) x5_1 y103 _ _ _ (fun k_ => some k_ ≠ (.slice Ao18 y103.length co18 : Value).ownBlock) (fun _ => False) rfl rfl ?aO ?aR (fun _ _ h => h) (fun _ h => h.elim) ?aF ?aB ?aS ?aL ?_
          (case aR => exact Kd.C_u (Kd.R_reads' HO105.out).2.2)
          (case aB => exact (by repeat (first | (with_reducible first | exact HB.out | refine below_q ?_ | refine below_set ?_ GE102.out) | exact HB.out)))
          (case aF => exact (fun k_ hk => Kd.fresh' (Kd.R_lt (Kd.R_u HO105.out)) k_ hk))
          (case aO => exact (Kd.R_u (Kd.R_mono HO_5.out (fun _ hk => hk.2))))
          (case aS => exact (below_size (by repeat (first | (with_reducible first | exact HB.out | refine below_q ?_ | refine below_set ?_ GE102.out) | exact HB.out))))
          (case aL => have := LMc5.out; omega)
          intro v107 w17 ho hb hg hat
          rw [← Ny106.out] at ho
          have n0_ := Aside0.mk (Kd.R_over' (Kd.R_u HO_6.out) (Kd.R_typed (Kd.R_u HO_5.out)) (by decide) hg)
          have n1_ := Aside0.mk (blk_grown (g := gb102) (o := .cells #[.int .i64 ((rd_T192 l0 x13_1).f0), .int .u64 ((rd_T192 l0 x13_1).f1)] 192 (0, 0)) (blk_u BK102.out) hg (Kd.R_ne HO_5.out BK102.out (by decide)))
          have n2_ := Aside0.mk (Kd.R_after (ok := (fun _ => True)) (Kd.R_u HO105.out) hg hat)
          have n3_ := Aside0.mk (Kd.R_over' (Kd.R_u HO111.out) (Kd.R_typed (Kd.R_u HO_5.out)) (by decide) hg)
          have n4_ := Aside0.mk (hb)
          have n5_ := Aside0.mk (ho)
          clear HO_6
          clear BK102
          clear HO105
          clear HO111
          clear HB
          clear HO_5
          have HO_6 := n0_
          have BK102 := n1_
          have HO105 := n2_
          have HO111 := n3_
          have HB := n4_
          have HO108 := n5_
          clear n0_ n1_ n2_ n3_ n4_ n5_
          clear ho hb hg hat
          refine hK.out _ _ ⟨(blk_cell BK102.out 0).trans rfl, (blk_cell BK102.out 1).trans rfl⟩ (fun hHeld => ?_)
          clear hK K
          refine norm_ (a' := ?_) ?_ ?_
          rotate_left
          ·show Act.put _ (some 21) _ = _
           simp only [Act.put, List.setIfInBounds_toArray, List.set_cons_zero, List.set_cons_succ, i64_w, i32_w]
           rfl
          exact norm_ (by simp only [putAll, Act.put, List.setIfInBounds_toArray, List.set_cons_zero, List.set_cons_succ]) (hCont (.slice Ao18 y103.length co18, v107, v110) _ ⟨hHeld, (Kd.R_u (Kd.R_mono HO105.out (fun _ hk => hk.2))), (Kd.R_u HO108.out), (Kd.R_u (Kd.R_mono HO111.out (fun _ hk => hk.2))), (Kd.R_u (Kd.R_mono HO_6.out (fun _ hk => hk.2))), (blk_u BK102.out), (by repeat (first | (with_reducible first | exact HB.out | refine below_q ?_ | refine below_set ?_ GE102.out) | exact HB.out))⟩)
         skip
         refine Kd.R_lit_step (Kd.int .u64) _ 25 ?hg (N := 25) ?hd (xs := ([(rd_T192 l0 x13_1).f1] : List Int)) (inner := [.int .u64 ((rd_T192 l0 x13_1).f1)]) (ok := fun _ => True) (okp := fun _ => True) ?hr ?hp (fun _ hk => hk) trivial (Below.refl _ _) (Nat.le_refl _) (by simp) ?_; (case hd => rfl); (case hg => rfl); (case hr => first | (go_simp; done) | (go_simp; rfl)); (case hp => exact (Reps.one (show Kd.M (Kd.int .u64) _ _ _ ((rd_T192 l0 x13_1).f1) [.int .u64 ((rd_T192 l0 x13_1).f1)] from rfl) (Reps.none _ _)))
         intro v110 w13 ho14 hb hg_ hnew_
         clear hg_ hnew_
         (first | rw [← Ny109.out] at ho14 | (simp only [Int.reduceToNat] at ho14; rw [← Ny109.out] at ho14))
         have n0_ := Aside0.mk (Kd.R_ub HO_5.out hb)
         have n1_ := Aside0.mk (Kd.R_elder' (Kd.R_u HO_6.out) (Kd.R_base ho14) hb)
         have n2_ := Aside0.mk (Kd.R_lower (Kd.R_new' ho14 (Kd.R_lt (Kd.R_u HO_6.out))) (below_size (by repeat (first | (with_reducible first | exact HB.out | refine below_q ?_ | refine below_set ?_ GE102.out) | exact HB.out))))
         have n3_ := Aside0.mk (blk_ub BK102.out hb)
         have n4_ := Aside0.mk (below_step (by repeat (first | (with_reducible first | exact HB.out | refine below_q ?_ | refine below_set ?_ GE102.out) | exact HB.out)) hb)
         clear HO_5
         clear HO_6
         clear BK102
         clear HB
         have HO_5 := n0_
         have HO_6 := n1_
         have HO111 := n2_
         have BK102 := n3_
         have HB := n4_
         clear n0_ n1_ n2_ n3_ n4_
         clear hb ho14
         refine hK.out _ _ ⟨(blk_cell BK102.out 0).trans rfl, (blk_cell BK102.out 1).trans rfl⟩ (fun hHeld => ?_)
         clear hK K
         refine norm_ (a' := ?_) ?_ ?_
         rotate_left
         ·show Act.put _ (some 25) _ = _
          simp only [Act.put, List.setIfInBounds_toArray, List.set_cons_zero, List.set_cons_succ, i64_w, i32_w]
          rfl
         refine one_ (i := 3) (N := some 20) #[true, true, true, true, false, true, true, true, true, false, false, false] rfl rfl (one_of HT_.out (by kernel_rfl)) (by decide) (fun K hK => ?_)
         refine Kd.R_lit_step (Kd.int .i64) _ 3 ?hg (N := 20) ?hd (xs := ([(rd_T192 l0 x13_1).f0] : List Int)) (inner := [.int .i64 ((rd_T192 l0 x13_1).f0)]) (ok := fun _ => True) (okp := fun _ => True) ?hr ?hp (fun _ hk => hk) trivial (Below.refl _ _) (Nat.le_refl _) (by simp) ?_; (case hd => rfl); (case hg => rfl); (case hr => first | (go_simp; done) | (go_simp; rfl)); (case hp => exact (Reps.one (show Kd.M (Kd.int .i64) _ _ _ ((rd_T192 l0 x13_1).f0) [.int .i64 ((rd_T192 l0 x13_1).f0)] from rfl) (Reps.none _ _)))
         intro v104 w15 ho16 hb hg_ hnew_
         clear hg_ hnew_
         (first | rw [← Ny103.out] at ho16 | (simp only [Int.reduceToNat] at ho16; rw [← Ny103.out] at ho16))
         have n0_ := Aside0.mk (Kd.R_elder' (Kd.R_u HO_5.out) (Kd.R_base ho16) hb)
         have n1_ := Aside0.mk (Kd.R_ub HO_6.out hb)
         have n2_ := Aside0.mk (Kd.R_ub HO111.out hb)
         have n3_ := Aside0.mk (Kd.R_lower (Kd.R_new' ho16 (Kd.R_lt (Kd.R_u HO_5.out))) (below_size (by repeat (first | (with_reducible first | exact HB.out | refine below_q ?_ | refine below_set ?_ GE102.out) | exact HB.out))))
         have n4_ := Aside0.mk (blk_ub BK102.out hb)
         have n5_ := Aside0.mk (below_step (by repeat (first | (with_reducible first | exact HB.out | refine below_q ?_ | refine below_set ?_ GE102.out) | exact HB.out)) hb)
         clear HO_5
         clear HO_6
         clear HO111
         clear BK102
         clear HB
         have HO_5 := n0_
         have HO_6 := n1_
         have HO111 := n2_
         have HO105 := n3_
         have BK102 := n4_
         have HB := n5_
         clear n0_ n1_ n2_ n3_ n4_ n5_
         clear hb ho16
         obtain ⟨Ao18, co18, eo18⟩ := Kd.R_slice HO105.out
         (first | subst eo18 | (injection eo18 with f1_ f2_ f3_; have f4_ := f1_.symm; have f5_ := f3_.symm; clear f1_ f2_ f3_; subst f4_; subst f5_))
         refine hK.out _ _ ⟨(blk_cell BK102.out 0).trans rfl, (blk_cell BK102.out 1).trans rfl⟩ (fun hHeld => ?_)
         clear hK K
         refine norm_ (a' := ?_) ?_ ?_
         rotate_left
         ·show Act.put _ (some 20) _ = _
          simp only [Act.put, List.setIfInBounds_toArray, List.set_cons_zero, List.set_cons_succ, i64_w, i32_w]
          rfl
         refine one_ (i := 4) (N := some 21) #[true, true, true, true, true, true, true, true, true, false, false, false] rfl rfl (one_of HT_.out (by kernel_rfl)) (by decide) (fun K hK => ?_)
         refine Kd.R_append_rows_step (Kd.int .i64) (w0 := w) w.heap.size (by rfl) (.tmp 17) (.tmp 20) 30 3 (.int .i64 0) 8 rfl Try.underlying30 info3 rfl (by decide) (by omega) (.slice Ao9 x5_1.length co9) x5_1 y103 _ _ _ (fun k_ => some k_ ≠ (.slice Ao18 y103.length co18 : Value).ownBlock) (fun _ => False) rfl rfl ?aO ?aR (fun _ _ h => h) (fun _ h => h.elim) ?aF ?aB ?aS ?aL ?_
         (case aR => exact Kd.C_u (Kd.R_reads' HO105.out).2.2)
         (case aB => exact (by repeat (first | (with_reducible first | exact HB.out | refine below_q ?_ | refine below_set ?_ GE102.out) | exact HB.out)))
         (case aF => exact (fun k_ hk => Kd.fresh' (Kd.R_lt (Kd.R_u HO105.out)) k_ hk))
         (case aO => exact (Kd.R_u (Kd.R_mono HO_5.out (fun _ hk => hk.2))))
         (case aS => exact (below_size (by repeat (first | (with_reducible first | exact HB.out | refine below_q ?_ | refine below_set ?_ GE102.out) | exact HB.out))))
         (case aL => have := LMc5.out; omega)
         intro v107 w17 ho hb hg hat
         rw [← Ny106.out] at ho
         have n0_ := Aside0.mk (Kd.R_over' (Kd.R_u HO_6.out) (Kd.R_typed (Kd.R_u HO_5.out)) (by decide) hg)
         have n1_ := Aside0.mk (blk_grown (g := gb102) (o := .cells #[.int .i64 ((rd_T192 l0 x13_1).f0), .int .u64 ((rd_T192 l0 x13_1).f1)] 192 (0, 0)) (blk_u BK102.out) hg (Kd.R_ne HO_5.out BK102.out (by decide)))
         have n2_ := Aside0.mk (Kd.R_over' (Kd.R_u HO111.out) (Kd.R_typed (Kd.R_u HO_5.out)) (by decide) hg)
         have n3_ := Aside0.mk (Kd.R_after (ok := (fun _ => True)) (Kd.R_u HO105.out) hg hat)
         have n4_ := Aside0.mk (hb)
         have n5_ := Aside0.mk (ho)
         clear HO_6
         clear BK102
         clear HO111
         clear HO105
         clear HB
         clear HO_5
         have HO_6 := n0_
         have BK102 := n1_
         have HO111 := n2_
         have HO105 := n3_
         have HB := n4_
         have HO108 := n5_
         clear n0_ n1_ n2_ n3_ n4_ n5_
         clear ho hb hg hat
         refine hK.out _ _ ⟨(blk_cell BK102.out 0).trans rfl, (blk_cell BK102.out 1).trans rfl⟩ (fun hHeld => ?_)
         clear hK K
         refine norm_ (a' := ?_) ?_ ?_
         rotate_left
         ·show Act.put _ (some 21) _ = _
          simp only [Act.put, List.setIfInBounds_toArray, List.set_cons_zero, List.set_cons_succ, i64_w, i32_w]
          rfl
         exact norm_ (by simp only [putAll, Act.put, List.setIfInBounds_toArray, List.set_cons_zero, List.set_cons_succ]) (hCont (.slice Ao18 y103.length co18, v107, v110) _ ⟨hHeld, (Kd.R_u (Kd.R_mono HO105.out (fun _ hk => hk.2))), (Kd.R_u HO108.out), (Kd.R_u (Kd.R_mono HO111.out (fun _ hk => hk.2))), (Kd.R_u (Kd.R_mono HO_6.out (fun _ hk => hk.2))), (blk_u BK102.out), (by repeat (first | (with_reducible first | exact HB.out | refine below_q ?_ | refine below_set ?_ GE102.out) | exact HB.out))⟩)
        rintro ⟨v104, v107, v110⟩ w19 ⟨hS_, h0_, h1_, h2_, h3_, h4_, h5_⟩
        have n0_ : Aside0 (Kd.R (Kd.int .i64) 3 w19 w.heap.size (fun k_ => some k_ ≠ (v107 : Value).ownBlock) v104 y103) := ⟨h0_⟩
        have n1_ : Aside0 (Kd.R (Kd.int .i64) 3 w19 w.heap.size (fun k_ => some k_ ≠ (v104 : Value).ownBlock) v107 y106) := ⟨h1_⟩
        have n2_ : Aside0 (Kd.R (Kd.int .u64) 25 w19 w.heap.size (fun k_ => some k_ ≠ (.slice Ao10 x6_1.length co10 : Value).ownBlock) v110 y109) := ⟨h2_⟩
        have n3_ : Aside0 (Kd.R (Kd.int .u64) 25 w19 w.heap.size (fun k_ => some k_ ≠ (v110 : Value).ownBlock) (.slice Ao10 x6_1.length co10) x6_1) := ⟨h3_⟩
        have n4_ : Aside0 (w19.heap[gb102]? = some (.cells #[.int .i64 ((rd_T192 l0 x13_1).f0), .int .u64 ((rd_T192 l0 x13_1).f1)] 192 (0, 0))) := ⟨h4_⟩
        have n5_ : Aside0 (Below w.heap.size w w19) := ⟨h5_⟩
        clear HO_5
        clear HO_6
        clear BK102
        clear HB
        clear h0_ h1_ h2_ h3_ h4_ h5_
        have HO105 := n0_
        have HO108 := n1_
        have HO111 := n2_
        have HO_6 := n3_
        have BK102 := n4_
        have HB := n5_
        clear n0_ n1_ n2_ n3_ n4_ n5_
        have hHeld : w19.cell? ⟨gb102, 0, none⟩ = some (.int .i64 ((rd_T192 l0 x13_1).f0)) ∧ w19.cell? ⟨gb102, 1, none⟩ = some (.int .u64 ((rd_T192 l0 x13_1).f1)) := hS_
        obtain ⟨Ao21, co21, eo21⟩ := Kd.R_slice HO111.out
        (first | subst eo21 | (injection eo21 with f1_ f2_ f3_; have f4_ := f1_.symm; have f5_ := f3_.symm; clear f1_ f2_ f3_; subst f4_; subst f5_))
        refine norm_ (a' := ?_) ?_ ?_
        rotate_left
        ·simp only [putAll, Act.put, List.setIfInBounds_toArray, List.set_cons_zero, List.set_cons_succ]
         rfl
        refine one_ (i := 9) (N := some 26) #[true, true, true, true, true, true, true, true, true, true, false, false] rfl rfl (one_of HT_.out (by kernel_rfl)) (by decide) (fun K hK => ?_)
        refine Kd.R_append_rows_step (Kd.int .u64) (w0 := w) w.heap.size (by rfl) (.tmp 22) (.tmp 25) 53 25 (.int .u64 0) 8 rfl Try.underlying53 info25 rfl (by decide) (by omega) (.slice Ao10 x6_1.length co10) x6_1 y109 _ _ _ (fun k_ => some k_ ≠ (.slice Ao21 y109.length co21 : Value).ownBlock) (fun _ => False) rfl rfl ?aO ?aR (fun _ _ h => h) (fun _ h => h.elim) ?aF ?aB ?aS ?aL ?_
        (case aR => exact Kd.C_u (Kd.R_reads' HO111.out).2.2)
        (case aB => exact (by repeat (first | (with_reducible first | exact HB.out | refine below_q ?_ | refine below_set ?_ GE102.out) | exact HB.out)))
        (case aF => exact (fun k_ hk => Kd.fresh' (Kd.R_lt (Kd.R_u HO111.out)) k_ hk))
        (case aO => exact (Kd.R_u HO_6.out))
        (case aS => exact (below_size (by repeat (first | (with_reducible first | exact HB.out | refine below_q ?_ | refine below_set ?_ GE102.out) | exact HB.out))))
        (case aL => have := LMc6.out; omega)
        intro v113 w20 ho hb hg hat
        rw [← Ny112.out] at ho
        have n0_ := Aside0.mk (blk_grown (g := gb102) (o := .cells #[.int .i64 ((rd_T192 l0 x13_1).f0), .int .u64 ((rd_T192 l0 x13_1).f1)] 192 (0, 0)) (blk_u BK102.out) hg (Kd.R_ne HO_6.out BK102.out (by decide)))
        have n1_ := Aside0.mk (Kd.R_over' (Kd.R_u HO105.out) (Kd.R_typed (Kd.R_u HO_6.out)) (by decide) hg)
        have n2_ := Aside0.mk (Kd.R_over' (Kd.R_u HO108.out) (Kd.R_typed (Kd.R_u HO_6.out)) (by decide) hg)
        have n3_ := Aside0.mk (Kd.R_after (ok := (fun _ => True)) (Kd.R_u (Kd.R_mono HO111.out (fun _ hk => ⟨trivial, hk⟩))) hg hat)
        have n4_ := Aside0.mk (hb)
        have n5_ := Aside0.mk (ho)
        clear BK102
        clear HO105
        clear HO108
        clear HO111
        clear HB
        clear HO_6
        have BK102 := n0_
        have HO105 := n1_
        have HO108 := n2_
        have HO111 := n3_
        have HB := n4_
        have HO114 := n5_
        clear n0_ n1_ n2_ n3_ n4_ n5_
        clear ho hb hg hat
        refine hK.out _ _ ⟨(blk_cell BK102.out 0).trans rfl, (blk_cell BK102.out 1).trans rfl⟩ (fun hHeld => ?_)
        clear hK K
        refine norm_ (a' := ?_) ?_ ?_
        rotate_left
        ·show Act.put _ (some 26) _ = _
         simp only [Act.put, List.setIfInBounds_toArray, List.set_cons_zero, List.set_cons_succ, i64_w, i32_w]
         rfl
        refine pure_ (i := 10) (N := some 5) (v := ?_) (a' := ?_) #[true, true, true, true, true, true, true, true, true, true, true, false] rfl rfl (any_of HT_.out (by kernel_rfl)) (fun _ _ _ h => h) (Or.inl ⟨by rfl, ?_⟩) ?_ ?_
        rotate_left
        ·intro w'
         go_simp
         with_reducible rfl
        rotate_left
        ·simp only [Act.put, List.setIfInBounds_toArray, List.set_cons_zero, List.set_cons_succ, i64_w, i32_w]
         rfl
        refine pure_ (i := 11) (N := some 6) (v := ?_) (a' := ?_) #[true, true, true, true, true, true, true, true, true, true, true, true] rfl rfl (any_of HT_.out (by kernel_rfl)) (fun _ _ _ h => h) (Or.inl ⟨by rfl, ?_⟩) ?_ ?_
        rotate_left
        ·intro w'
         go_simp
         with_reducible rfl
        rotate_left
        ·simp only [Act.put, List.setIfInBounds_toArray, List.set_cons_zero, List.set_cons_succ, i64_w, i32_w]
         rfl
        refine done_ (done_of HT_.out (by kernel_rfl)) ?_
        try go_wp2
        go_roundg k1
        case measure => have := HK1.out; omega
        case rel => exact ⟨(y106), (y112), (wrap64 (x13_1 + 1)), (by first | rfl | (simp; done) | (simp [*]; done)), H', ⟨by have := HK1.out; omega⟩, ⟨by (repeat with_reducible refine Kd.R_q ?_); exact Kd.R_mono HO108.out (fun _ hk => trivial)⟩, ⟨by (repeat with_reducible refine Kd.R_q ?_); exact Kd.R_mono HO114.out (fun _ hk => trivial)⟩, ⟨by repeat (first | (with_reducible first | exact HB.out | apply below_alloc | apply pw_below_drewN | apply below_drew1 | refine below_set ?_ GE102.out) | exact HB.out)⟩⟩
       rw [if_neg c6] at H
       exact absurd H (by simp)
      rw [if_neg c5] at H
      exact absurd H (by simp)
     rw [if_neg c4] at H
     exact absurd H (by simp)
    rw [if_neg c3] at H
    exact absurd H (by simp)
   rw [if_neg c2] at H
   have c2b0 : decide (x13_1 < (l0.length : Int)) = false := decide_eq_false c2
   clear c2
   replace H := Option.bind_eq_some_iff.mp H
   obtain ⟨⟨t115, t116⟩, A220, H⟩ := H
   replace H : (if t116 = 0 then (some (t115, x6_1, 0)) else (some (([] : List (S113)), ([] : List Int), t116))) = some (r1, r2, r3) := H
   have A22 := Aside0.mk A220
   clear A220
   by_cases c23 : t116 = 0
   ·rw [if_pos c23] at H
    have c23b0 : (t116 == 0) = true := beq_iff_eq.mpr c23
    have c23b1 : (t116 != 0) = false := bne_eq_false_iff_eq.mpr c23
    clear c23
    simp only [Option.some.injEq, Prod.mk.injEq] at H
    obtain ⟨rfl, rfl, rfl⟩ := H
    obtain ⟨Ao24, co24, eo24⟩ := Kd.R_slice HO_5.out
    subst eo24
    go_wp2_with (first | ((with_reducible refine gate_callee (f := 172) rfl ?_); refine goesM_ (some 30) Try.func172 #[.slice Ao24 x5_1.length co24] ?_; (with_reducible refine (span_From.calls k1 _ _ x5_1 t115 t116 _ ?side1 ?side2 A22.out).mono ?_); (case side1 => exact Kd.C_u (Kd.R_reads' HO_5.out).2.2); (case side2 => exact (Kd.R_reads' HO_5.out).2.1); rintro e w25 ⟨v117, rfl, ho0, hb⟩; refine ⟨_, rfl, ?_⟩; have HO118 := Aside0.mk (Kd.R_lower ho0 (below_size (below_u HB.out))); replace HO_5 := Aside0.mk (Kd.R_ub HO_5.out hb); replace HO_6 := Aside0.mk (Kd.R_ub HO_6.out hb); replace HB := Aside0.mk (below_step (below_u HB.out) hb); (try clear hb); (try clear hb2); (try clear hk); (try clear hi); (try clear ho0); clear A22))
    go_ret3
    exact ⟨_, _, by first | rfl | (simp [errW_none, errW_some] <;> rfl) | (simp [*, errW_none, errW_some] <;> rfl), by (repeat with_reducible refine Kd.R_q ?_); exact HO118.out, by (repeat with_reducible refine Kd.R_q ?_); exact HO_6.out, by repeat (first | (with_reducible first | exact HB.out | apply below_alloc | apply pw_below_drewN | apply below_drew1) | exact HB.out)⟩
   rw [if_neg c23] at H
   have c23b0 : (t116 == 0) = false := beq_eq_false_iff_ne.mpr c23
   have c23b1 : (t116 != 0) = true := bne_iff_ne.mpr c23
   simp only [Option.some.injEq, Prod.mk.injEq] at H
   obtain ⟨rfl, rfl, rfl⟩ := H
   obtain ⟨Ao26, co26, eo26⟩ := Kd.R_slice HO_5.out
   subst eo26
   go_wp2_with (first | ((with_reducible refine gate_callee (f := 172) rfl ?_); refine goesM_ (some 30) Try.func172 #[.slice Ao26 x5_1.length co26] ?_; (with_reducible refine (span_From.calls k1 _ _ x5_1 t115 t116 _ ?side1 ?side2 A22.out).mono ?_); (case side1 => exact Kd.C_u (Kd.R_reads' HO_5.out).2.2); (case side2 => exact (Kd.R_reads' HO_5.out).2.1); rintro e w27 ⟨v117, rfl, ho0, hb⟩; refine ⟨_, rfl, ?_⟩; have HO118 := Aside0.mk (Kd.R_lower ho0 (below_size (below_u HB.out))); replace HO_5 := Aside0.mk (Kd.R_ub HO_5.out hb); replace HO_6 := Aside0.mk (Kd.R_ub HO_6.out hb); replace HB := Aside0.mk (below_step (below_u HB.out) hb); (try clear hb); (try clear hb2); (try clear hk); (try clear hi); (try clear ho0); clear A22))
   go_ret3
   exact ⟨_, _, by first | rfl | (simp [errW_none, errW_some] <;> rfl) | (simp [*, errW_none, errW_some] <;> rfl), by first | exact Kd.R_nil _ _ _ _ _ | exact Kd.N_nil _ _ _ _ _ | exact Kd.V_nil _ _ _ _ _ | exact Kd.Q_nil _ _ _ _ _ | exact Kd.S_nil _ _ _ _ _, by first | exact Kd.R_nil _ _ _ _ _ | exact Kd.N_nil _ _ _ _ _ | exact Kd.V_nil _ _ _ _ _ | exact Kd.Q_nil _ _ _ _ _ | exact Kd.S_nil _ _ _ _ _, by repeat (first | (with_reducible first | exact HB.out | apply below_alloc | apply pw_below_drewN | apply below_drew1) | exact HB.out)⟩
end Go.Proofs.Ytooiccpmngmapaa.P
namespace Go.Proofs.Ytooiccpmngmapaa.P
open Go.RowKit Go.Shelf Go.Proofs.YtooiccpmngmapaaW.PrintWords Go.Proofs.YtooiccpmngmapaaW.PrintLast Go.Proofs.YtooiccpmngmapaaW.PrintMore
abbrev Pu := S192
instance : DecidableEq Pu := fun a b => if h : a.f0 = b.f0 ∧ a.f1 = b.f1 then isTrue (by cases a; cases b; simp only at h; rw [h.1, h.2]) else isFalse (by rintro rfl; exact h ⟨rfl, rfl⟩)
theorem rdPu_at {l : List Pu} {i : Nat} (h : i < l.length) : rd_T192 l (i : Int) = l[i] := by unfold rd_T192; simp [List.getD, h]
def wfPus (l : List Pu) : Prop := ∀ s ∈ l, i64 s.f0 ∧ u64 s.f1
def unzipResU (l : List Pu) : List Sp × List Int × Int := if (fromRes (l.map (·.f0))).2 = 0 then ((fromRes (l.map (·.f0))).1, l.map (·.f1), 0) else ([], [], (fromRes (l.map (·.f0))).2)
theorem unzipU_loop (l : List Pu) (hw : wfPus l) (hm : l.length < 4398046511104) : ∀ (d k i : Nat), l.length - i = d → d + 2 * l.length + 1 < k → i ≤ l.length →
    pairs_Unzip_uint64.l0 k ((l.take i).map (·.f0)) ((l.take i).map (·.f1)) l (l.length : Int) (i : Int) = some (unzipResU l) := by
  intro d
  induction d with
  | zero =>
    intro k i hd hk hi
    obtain ⟨k, rfl⟩ : ∃ m, k = m + 1 := ⟨k - 1, by omega⟩
    simp only [pairs_Unzip_uint64.l0]
    rw [if_neg (by omega), List.take_of_length_le (by omega), from_eq _ (by intro x hx; obtain ⟨s, hs, rfl⟩ := List.mem_map.1 hx; exact (hw s hs).1) (by simpa using hm) k (by simp; omega)]
    simp only [Option.bind_some]
    unfold unzipResU
    split <;> rfl
  | succ d ih =>
    intro k i hd hk hi
    obtain ⟨k, rfl⟩ : ∃ m, k = m + 1 := ⟨k - 1, by omega⟩
    have hlt : i < l.length := by omega
    have hl1 : ((l.take i).map (·.f0)).length = i := by simp; omega
    have hl2 : ((l.take i).map (·.f1)).length = i := by simp; omega
    simp only [pairs_Unzip_uint64.l0, Option.bind_some]
    rw [if_pos (by omega), if_pos (by omega), if_pos (by omega), hl1, hl2, rdPu_at hlt, if_pos (by simp; omega), if_pos (by simp; omega), wrap_succ (by omega), ← ih k (i + 1) (by omega) (by omega) (by omega), take_at hlt]
    simp only [List.map_append, List.map_cons, List.map_nil]
theorem unzipU_eq (l : List Pu) (hw : wfPus l) (hm : l.length < 4398046511104) (k : Nat) (hk : 3 * l.length + 1 < k) : pairs_Unzip_uint64.f k l = some (unzipResU l) := by
  unfold pairs_Unzip_uint64.f
  exact unzipU_loop l hw hm l.length k 0 (by omega) (by omega) (by omega)
def zipResU (l : List Sp) (v : List Int) : List Pu × Int := if spCheck l = 0 then (if (plN 0 l).length = v.length then (List.zipWith (fun p x => (⟨p, x⟩ : Pu)) (plN 0 l) v, 0) else ([], 10)) else ([], spCheck l)
theorem zipU_loop (ps v : List Int) (hl : ps.length = v.length) (hm : ps.length < 8796093022208) : ∀ (d k i : Nat), ps.length - i = d → d < k → i ≤ ps.length →
    pairs_Zip_uint64.l0 k v (List.zipWith (fun p x => (⟨p, x⟩ : Pu)) (ps.take i) (v.take i)) ps (ps.length : Int) (i : Int) = some (List.zipWith (fun p x => (⟨p, x⟩ : Pu)) ps v, 0) := by
  intro d
  induction d with
  | zero =>
    intro k i hd hk hi
    obtain ⟨k, rfl⟩ : ∃ m, k = m + 1 := ⟨k - 1, by omega⟩
    simp only [pairs_Zip_uint64.l0]
    rw [if_neg (by omega), List.take_of_length_le (by omega), List.take_of_length_le (by omega)]
  | succ d ih =>
    intro k i hd hk hi
    obtain ⟨k, rfl⟩ : ∃ m, k = m + 1 := ⟨k - 1, by omega⟩
    have hlt : i < ps.length := by omega
    have hlv : i < v.length := by omega
    have hl1 : (List.zipWith (fun p x => (⟨p, x⟩ : Pu)) (ps.take i) (v.take i)).length = i := by simp; omega
    simp only [pairs_Zip_uint64.l0]
    rw [if_pos (by omega), if_pos (by omega), if_pos (by omega), if_pos (by omega), hl1, rd_at hlt, rd_at hlv, if_pos (by omega), wrap_succ (by omega), ← ih k (i + 1) (by omega) (by omega) (by omega), take_at hlt, take_at hlv, List.zipWith_append (by simp; omega)]
    rfl
theorem zipU_eq (l : List Sp) (v : List Int) (hw : wfSps l) (k : Nat) (hk : 4100 < k) : pairs_Zip_uint64.f k l v = some (zipResU l v) := by
  unfold pairs_Zip_uint64.f zipResU
  rw [places_eq l hw k (by omega)]
  simp only [Option.bind_some, placesRes]
  by_cases h : spCheck l = 0
  · have hl := places_len h
    rw [if_pos h, if_pos h]
    simp only [if_true]
    by_cases h1 : (plN 0 l).length = v.length
    · rw [if_pos (by omega), if_pos h1]
      exact zipU_loop (plN 0 l) v h1 (by omega) (plN 0 l).length k 0 (by omega) (by omega) (by omega)
    · rw [if_neg (by omega), if_neg h1]
  · rw [if_neg h, if_neg h]
    simp only
    rw [if_neg h]
end Go.Proofs.Ytooiccpmngmapaa.P
namespace Go.Proofs.Ytooiccpmngmapaa.P
open Go.RowKit Go.Shelf Go.Proofs.YtooiccpmngmapaaW.PrintWords Go.Proofs.YtooiccpmngmapaaW.PrintLast Go.Proofs.YtooiccpmngmapaaW.PrintMore
def PredN_uint64 (g : Nat) (cap : Array Value) (p : Int → Bool) (w : World) : Prop :=
  ∀ (W : World) (x : Int), Below w.heap.size w W → Calls Try.prog g (#[.int .u64 x] ++ cap) W fun e w' => e = .returned (.bool (p x)) ∧ Below W.heap.size W w'
set_option maxHeartbeats 2000000 in
theorem indexFunc_num_uint64 (g : Nat) (cap : Array Value) (p : Int → Bool) (A : Option Addr) (c : Nat) (l : List Int) (w : World)
    (hr : Kd.C (Kd.int .u64) w A l.length l) (hc : l.length ≤ c) (hm : l.length ≤ 9223372036854775807) (hp : PredN_uint64 g cap p w) (eg : ∀ args w, (callFunc g args).run Try.prog w = .ok (.enter g args) w) :
    Calls Try.prog 183 #[.slice A l.length c, .func (.func g) #[] cap] w fun e w' => e = .returned (.int .i64 (idxP p l)) ∧ Below w.heap.size w w' := by
  have HR := Aside0.mk hr
  have HP := Aside0.mk hp
  clear hr hp
  go_enter Try.func183, Try.ntmps183
  go_wp2
  go_loopg [5, 8] l.length (fun gg _ s8 wr => ∃ kk : Nat, kk ≤ l.length ∧ l.length - kk ≤ gg ∧ s8 = .int .i64 kk ∧ Aside0 (Below w.heap.size w wr) ∧ Aside0 (∀ j (hj : j < kk) (hj2 : j < l.length), p l[j] = false))
  case atStart => exact ⟨0, Nat.zero_le _, by omega, rfl, ⟨Below.refl _ w⟩, ⟨fun j hj => absurd hj (Nat.not_lt_zero _)⟩⟩
  case round =>
    obtain ⟨kk, hkk, hg, rfl, HB, HA⟩ := hrel
    by_cases hlt : kk < l.length
    · have hlti : (kk : Int) < (l.length : Int) := by omega
      obtain ⟨ad, e1, hx0⟩ := Kd.at_int HR.out kk (by omega) (by omega)
      cases e1
      replace hx0 := (HB.out.cell (World.block_lt_of_cell? w _ hx0)).trans hx0
      have hrd : rd l (kk : Int) = l[kk] := by unfold rd; simp [List.getD, hlt]
      rw [hrd, Int.toNat_natCast] at hx0
      have hcall := HP.out wr l[kk] HB.out
      generalize hy : l[kk] = y at hx0 hcall
      have HY := Aside0.mk hy
      clear hy hrd
      cases hq : p y with
      | true =>
        rw [hq] at hcall
        have HQ := Aside0.mk hq
        clear hq
        have HC := Aside0.mk hcall
        clear hcall
        go_wp2_with (go_at_fn g; refine HC.out.mono ?_; rintro e w' ⟨rfl, hb'⟩)
        go_ret
        refine ⟨?_, HB.out.trans (hb'.mono HB.out.size)⟩
        rw [idxP_hit p l kk hlt (by rw [HY.out]; exact HQ.out) (fun j hj => HA.out j hj (by omega))]; rfl
      | false =>
        rw [hq] at hcall
        have HQ := Aside0.mk hq
        clear hq
        have HC := Aside0.mk hcall
        clear hcall
        go_wp2_with (go_at_fn g; refine HC.out.mono ?_; rintro e w' ⟨rfl, hb'⟩)
        go_roundg (l.length - (kk + 1))
        case measure => omega
        case rel =>
          refine ⟨kk + 1, by omega, by omega, by go_num, ⟨HB.out.trans (hb'.mono HB.out.size)⟩, ⟨fun j hj hj2 => ?_⟩⟩
          by_cases e : j = kk
          · subst e
            rw [HY.out]; exact HQ.out
          · exact HA.out j (by omega) hj2
    · have hlti : ¬ (kk : Int) < (l.length : Int) := by omega
      have hk : kk = l.length := by omega
      go_wp2
      go_ret
      refine ⟨?_, HB.out⟩
      rw [idxP_miss p l (fun j hj => HA.out j (by omega) hj)]; rfl
theorem idxP_any_uint64 (p : Int → Bool) (l : List Int) : decide (idxP p l ≥ 0) = l.any p := by
  rcases find_idx p l with ⟨h1, h2⟩ | ⟨i, h, h1, h2⟩
  · rw [h1, Bool.eq_iff_iff, decide_eq_true_iff]
    constructor
    · intro h; omega
    · intro h
      obtain ⟨x, hx, hp⟩ := List.any_eq_true.1 h
      rw [List.find?_eq_none] at h2
      exact absurd hp (h2 x hx)
  · rw [h1, Bool.eq_iff_iff, decide_eq_true_iff]
    constructor
    · intro _; exact List.any_eq_true.2 ⟨_, List.getElem_mem h, by have := List.find?_some h2; exact this⟩
    · intro _; omega
set_option maxHeartbeats 2000000 in
theorem containsFunc_num_uint64 (g : Nat) (cap : Array Value) (p : Int → Bool) (A : Option Addr) (c : Nat) (l : List Int) (w : World)
    (hr : Kd.C (Kd.int .u64) w A l.length l) (hc : l.length ≤ c) (hm : l.length ≤ 9223372036854775807) (hp : PredN_uint64 g cap p w) (eg : ∀ args w, (callFunc g args).run Try.prog w = .ok (.enter g args) w) :
    Calls Try.prog 174 #[.slice A l.length c, .func (.func g) #[] cap] w fun e w' => e = .returned (.bool (l.any p)) ∧ Below w.heap.size w w' := by
  have H := Aside0.mk (indexFunc_num_uint64 g cap p A c l w hr hc hm hp eg)
  have HE := Aside0.mk (idxP_any_uint64 p l)
  clear hr hp
  generalize idxP p l = ix at H HE
  go_enter Try.func174, Try.ntmps174
  go_wp2_with (go_at_call 183; refine H.out.mono ?_; rintro e w' ⟨rfl, hb'⟩)
  go_ret
  exact ⟨by rw [← HE.out]; rfl, hb'⟩
end Go.Proofs.Ytooiccpmngmapaa.P
namespace Go.Proofs.Ytooiccpmngmapaa.P
open Go.RowKit Go.Shelf Go.Proofs.YtooiccpmngmapaaW.PrintWords Go.Proofs.YtooiccpmngmapaaW.PrintLast Go.Proofs.YtooiccpmngmapaaW.PrintMore
abbrev kPu := k192
def u64s (l : List Int) : Prop := ∀ x ∈ l, u64 x
instance (l : List Int) : Decidable (u64s l) := by unfold u64s; exact inferInstance
def rightF (v : Int) : Bool := decide (v < 9218868437227405312)
theorem thresh_c (v : Int) (w : World) : Calls Try.prog 131 #[.int .u64 v] w fun e w' => e = .returned (.bool (rightF v)) ∧ Below w.heap.size w w' := (hist_Threshold.calls v _ w rfl).mono fun e w1 h => ⟨h.1, h.2.below⟩
theorem right_c (v : Int) (w : World) : Calls Try.prog 146 #[.int .u64 v] w fun e w' => e = .returned (.bool (rightF v)) ∧ Below w.heap.size w w' := by
  have HT := thresh_c v
  generalize rightF v = b at *
  go_enter Try.func146, Try.ntmps146
  go_wp2_with (go_at_call 131; (with_reducible refine (HT _).mono ?_); rintro e w1 ⟨rfl, hb⟩)
  go_ret
  exact ⟨rfl, hb⟩
theorem wrong_c (v : Int) (w : World) : Calls Try.prog 153 #[.int .u64 v] w fun e w' => e = .returned (.bool (!rightF v)) ∧ Below w.heap.size w w' := by
  have HT := right_c v
  generalize rightF v = b at *
  go_enter Try.func153, Try.ntmps153
  go_wp2_with (go_at_call 146; (with_reducible refine (HT _).mono ?_); rintro e w1 ⟨rfl, hb⟩)
  go_ret
  exact ⟨rfl, hb⟩
def sideF (l : List Sp) (c : List Int) : List Pu × Int :=
  if spCheck l = 0 then (if cntN l = c.length then (if c.any (fun v => !rightF v) = true then ([], 22) else (List.zipWith (fun p x => (⟨p, x⟩ : Pu)) (plN 0 l) c, 0)) else ([], 23)) else ([], spCheck l)
theorem spCheck_c (l : List Sp) (hw : wfSps l) (w : World) (v : Value) (hv : SI kSp w v l) : Calls Try.prog 164 #[v] w fun e w' => e = .returned (.int .i64 (spCheck l)) ∧ Below w.heap.size w w' := by
  obtain ⟨A, c, rfl, hc, hr⟩ := hv
  exact span_Check.calls 2049 A c l _ w hr hc (check_eq l hw 2049 (by omega))
theorem spCount_c (l : List Sp) (hw : wfSps l) (h0 : spCheck l = 0) (w : World) (v : Value) (hv : SI kSp w v l) : Calls Try.prog 165 #[v] w fun e w' => e = .returned (.int .i64 (cntN l)) ∧ Below w.heap.size w w' := by
  obtain ⟨A, c, rfl, hc, hr⟩ := hv
  exact span_Count.calls 2049 A c l _ w hr hc (by rw [count_eq l hw 2049 (by omega), if_pos h0])
theorem anyWrong_c (c : List Int) (hm : c.length < 4398046511104) (w : World) (v : Value) (hv : SI (Kd.int .u64) w v c) : Calls Try.prog 174 #[v, .func (.func 153) #[] #[]] w fun e w' => e = .returned (.bool (c.any (fun v => !rightF v))) ∧ Below w.heap.size w w' := by
  obtain ⟨A, c', rfl, hc, hr⟩ := hv
  exact containsFunc_num_uint64 153 #[] (fun v => !rightF v) A c' c w hr hc (by omega) (fun W x _ => wrong_c x W) (enters_of Try.func153 (by kernel_rfl) rfl)
theorem zipU_c (l : List Sp) (c : List Int) (hw : wfSps l) (w : World) (v u : Value) (hv : SI kSp w v l) (hu : SI (Kd.int .u64) w u c) : Calls Try.prog 175 #[v, u] w fun e w' => ∃ v0, e = .returned (.tuple #[v0, .int .i64 (zipResU l c).2]) ∧ FI kPu w.heap.size w' v0 (zipResU l c).1 ∧ Below w.heap.size w w' := by
  obtain ⟨A, c1, rfl, hc, hr⟩ := hv
  obtain ⟨B, c2, rfl, hd, hs⟩ := hu
  refine (pairs_Zip_uint64.calls 4101 A c1 l B c2 c (zipResU l c).1 (zipResU l c).2 w hr hc hs hd (zipU_eq l c hw 4101 (by omega))).mono ?_
  rintro e w1 ⟨v0, rfl, h0, hb⟩
  exact ⟨v0, rfl, .of_R h0 (Nat.le_refl _), hb⟩
set_option maxHeartbeats 8000000 in
set_option maxRecDepth 100000 in
theorem fside_c (l : List Sp) (c : List Int) (hw : wfSps l) (hm : c.length < 4398046511104) (w : World) (v u : Value) (hv : SI kSp w v l) (hu : SI (Kd.int .u64) w u c) : Calls Try.prog 154 #[v, u] w fun e w' => ∃ v0, e = .returned (.tuple #[v0, .int .i64 (sideF l c).2]) ∧ FI kPu w.heap.size w' v0 (sideF l c).1 ∧ Below w.heap.size w w' := by
  have hv' := hv
  have hu' := hu
  obtain ⟨A, c1, e1, -⟩ := hv'
  obtain ⟨A1, c2, e2, -⟩ := hu'
  subst e1; subst e2
  have B := Aside0.mk (Below.refl w.heap.size w)
  have HV := Aside0.mk hv
  have HU := Aside0.mk hu
  have kc := spCheck_c l hw
  have kn := spCount_c l hw
  have kf := anyWrong_c c hm
  have kz := zipU_c l c hw
  have hpl : spCheck l = 0 → ((plN 0 l).length : Int) = cntN l := fun h => plN_length l 0 (fun s hs => (spRight_pos l _ _ _ (spCheck_zero h).2 s hs).1)
  have hzr : zipResU l c = if spCheck l = 0 then (if (plN 0 l).length = c.length then (List.zipWith (fun p x => (⟨p, x⟩ : Pu)) (plN 0 l) c, 0) else ([], 10)) else ([], spCheck l) := rfl
  clear hv hu hw hm
  unfold sideF
  by_cases he : spCheck l = 0
  rotate_left
  · rw [if_neg he]
    generalize spCheck l = r at *
    have d1 : (r == 0) = false := beq_eq_false_iff_ne.2 he
    have d2 : (r != 0) = true := bne_iff_ne.2 he
    have KC := Aside0.mk kc
    clear kc kn kf kz hpl hzr he
    go_enter Try.func154, Try.ntmps154
    go_wp2_with (first | (go_at_call 164; (with_reducible refine (KC.out _ _ HV.out).mono ?_); rintro e W1 ⟨rfl, hb⟩; replace B := Aside0.mk (below_then B.out B.out.size hb); replace HV := Aside0.mk (HV.out.below hb); replace HU := Aside0.mk (HU.out.below hb); clear  hb))
    go_ret2
    exact ⟨_, rfl, fun w _ => SI.nil _ w, B.out⟩
  rw [if_pos he]
  rw [he] at kc
  have KC := Aside0.mk kc
  have KN := Aside0.mk (kn he)
  have hp := hpl he
  rw [if_pos he] at hzr
  clear kc kn hpl he
  generalize cntN l = n at *
  by_cases hc : n = (c.length : Int)
  rotate_left
  · rw [if_neg hc]
    have d1 : (n == (c.length : Int)) = false := beq_eq_false_iff_ne.2 hc
    have d2 : (n != (c.length : Int)) = true := bne_iff_ne.2 hc
    clear kf kz hzr hp hc
    go_enter Try.func154, Try.ntmps154
    go_wp2_with (first | (go_at_call 164; (with_reducible refine (KC.out _ _ HV.out).mono ?_); rintro e W1 ⟨rfl, hb⟩; replace B := Aside0.mk (below_then B.out B.out.size hb); replace HV := Aside0.mk (HV.out.below hb); replace HU := Aside0.mk (HU.out.below hb); clear  hb) | (go_at_call 165; (with_reducible refine (KN.out _ _ HV.out).mono ?_); rintro e W2 ⟨rfl, hb⟩; replace B := Aside0.mk (below_then B.out B.out.size hb); replace HV := Aside0.mk (HV.out.below hb); replace HU := Aside0.mk (HU.out.below hb); clear  hb))
    go_ret2
    exact ⟨_, rfl, fun w _ => SI.nil _ w, B.out⟩
  rw [if_pos hc]
  have d1 : (n == (c.length : Int)) = true := beq_iff_eq.2 hc
  have d2 : (n != (c.length : Int)) = false := by rw [bne, d1]; rfl
  rw [if_pos (by omega)] at hzr
  rw [hzr] at kz
  clear hzr hp hc
  generalize List.zipWith (fun p x => (⟨p, x⟩ : Pu)) (plN 0 l) c = z at *
  have KZ := Aside0.mk kz
  clear kz
  generalize c.any (fun v => !rightF v) = b at *
  have KF := Aside0.mk kf
  clear kf
  cases b with
  | true =>
    rw [if_pos rfl]
    go_enter Try.func154, Try.ntmps154
    go_wp2_with (first | (go_at_call 164; (with_reducible refine (KC.out _ _ HV.out).mono ?_); rintro e W1 ⟨rfl, hb⟩; replace B := Aside0.mk (below_then B.out B.out.size hb); replace HV := Aside0.mk (HV.out.below hb); replace HU := Aside0.mk (HU.out.below hb); clear  hb) | (go_at_call 165; (with_reducible refine (KN.out _ _ HV.out).mono ?_); rintro e W2 ⟨rfl, hb⟩; replace B := Aside0.mk (below_then B.out B.out.size hb); replace HV := Aside0.mk (HV.out.below hb); replace HU := Aside0.mk (HU.out.below hb); clear  hb) | (go_at_call 174; (with_reducible refine (KF.out _ _ HU.out).mono ?_); rintro e W3 ⟨rfl, hb⟩; replace B := Aside0.mk (below_then B.out B.out.size hb); replace HV := Aside0.mk (HV.out.below hb); replace HU := Aside0.mk (HU.out.below hb); clear  hb))
    go_ret2
    exact ⟨_, rfl, fun w _ => SI.nil _ w, B.out⟩
  | false =>
    rw [if_neg (by simp)]
    go_enter Try.func154, Try.ntmps154
    go_wp2_with (first | (go_at_call 164; (with_reducible refine (KC.out _ _ HV.out).mono ?_); rintro e W1 ⟨rfl, hb⟩; replace B := Aside0.mk (below_then B.out B.out.size hb); replace HV := Aside0.mk (HV.out.below hb); replace HU := Aside0.mk (HU.out.below hb); clear  hb) | (go_at_call 165; (with_reducible refine (KN.out _ _ HV.out).mono ?_); rintro e W2 ⟨rfl, hb⟩; replace B := Aside0.mk (below_then B.out B.out.size hb); replace HV := Aside0.mk (HV.out.below hb); replace HU := Aside0.mk (HU.out.below hb); clear  hb) | (go_at_call 174; (with_reducible refine (KF.out _ _ HU.out).mono ?_); rintro e W3 ⟨rfl, hb⟩; replace B := Aside0.mk (below_then B.out B.out.size hb); replace HV := Aside0.mk (HV.out.below hb); replace HU := Aside0.mk (HU.out.below hb); clear  hb) | (go_at_call 175; (with_reducible refine (KZ.out _ _ _ HV.out HU.out).mono ?_); rintro e W4 ⟨v0, rfl, hz, hb⟩; have B0 := Aside0.mk B.out.size; replace B := Aside0.mk (below_then B.out B.out.size hb); replace HV := Aside0.mk (HV.out.below hb); replace HU := Aside0.mk (HU.out.below hb); have Z := Aside0.mk hz; have hz' := Z.out; obtain ⟨zA, zc, ez⟩ := hz'.slice; subst ez; clear hz hb))
    go_ret2
    exact ⟨_, rfl, Z.out.lower B0.out, B.out⟩
end Go.Proofs.Ytooiccpmngmapaa.P
namespace Go.Proofs.Ytooiccpmngmapaa.P
open Go.RowKit Go.Shelf Go.Proofs.YtooiccpmngmapaaW.PrintWords Go.Proofs.YtooiccpmngmapaaW.PrintLast Go.Proofs.YtooiccpmngmapaaW.PrintMore
abbrev Fh := S55
def GI (w : World) (v : Value) (h : Fh) : Prop :=
  ∃ v5 v6 v7 v8, v = .agg #[.int .i64 h.f0, .int .u64 h.f1, .int .u64 h.f2, .int .u64 h.f3, .int .u64 h.f4, v5, v6, v7, v8] ∧ SI kSp w v5 h.f5 ∧ SI kSp w v6 h.f6 ∧ SI (Kd.int .u64) w v7 h.f7 ∧ SI (Kd.int .u64) w v8 h.f8
theorem GI.below {w w' : World} {v : Value} {h : Fh} (x : GI w v h) (hb : Below w.heap.size w w') : GI w' v h := by
  obtain ⟨v5, v6, v7, v8, e, h5, h6, h7, h8⟩ := x
  exact ⟨v5, v6, v7, v8, e, h5.below hb, h6.below hb, h7.below hb, h8.below hb⟩
theorem GI.open_ {w : World} {v : Value} {h : Fh} (x : GI w v h) : ∃ A5 c5 A6 c6 A7 c7 A8 c8, v = .agg #[.int .i64 h.f0, .int .u64 h.f1, .int .u64 h.f2, .int .u64 h.f3, .int .u64 h.f4, .slice A5 h.f5.length c5, .slice A6 h.f6.length c6, .slice A7 h.f7.length c7, .slice A8 h.f8.length c8] ∧
    SI kSp w (.slice A5 h.f5.length c5) h.f5 ∧ SI kSp w (.slice A6 h.f6.length c6) h.f6 ∧ SI (Kd.int .u64) w (.slice A7 h.f7.length c7) h.f7 ∧ SI (Kd.int .u64) w (.slice A8 h.f8.length c8) h.f8 := by
  obtain ⟨v5, v6, v7, v8, rfl, h5, h6, h7, h8⟩ := x
  obtain ⟨A5, c5, rfl, h51, h52⟩ := h5
  obtain ⟨A6, c6, rfl, h61, h62⟩ := h6
  obtain ⟨A7, c7, rfl, h71, h72⟩ := h7
  obtain ⟨A8, c8, rfl, h81, h82⟩ := h8
  exact ⟨A5, c5, A6, c6, A7, c7, A8, c8, rfl, .of h52 h51, .of h62 h61, .of h72 h71, .of h82 h81⟩
theorem GI.mk {w : World} {h : Fh} {v5 v6 v7 v8 : Value} (h5 : SI kSp w v5 h.f5) (h6 : SI kSp w v6 h.f6) (h7 : SI (Kd.int .u64) w v7 h.f7) (h8 : SI (Kd.int .u64) w v8 h.f8) :
    GI w (.agg #[.int .i64 h.f0, .int .u64 h.f1, .int .u64 h.f2, .int .u64 h.f3, .int .u64 h.f4, v5, v6, v7, v8]) h := ⟨v5, v6, v7, v8, rfl, h5, h6, h7, h8⟩
def emptyF : Fh := ⟨0, 0, 0, 0, 0, [], [], [], []⟩
def GF (base : Nat) (w : World) (v : Value) (h : Fh) : Prop :=
  ∃ v5 v6 v7 v8, v = .agg #[.int .i64 h.f0, .int .u64 h.f1, .int .u64 h.f2, .int .u64 h.f3, .int .u64 h.f4, v5, v6, v7, v8] ∧ FI kSp base w v5 h.f5 ∧ FI kSp base w v6 h.f6 ∧ FI (Kd.int .u64) base w v7 h.f7 ∧ FI (Kd.int .u64) base w v8 h.f8
theorem GF.now {base : Nat} {w : World} {v : Value} {h : Fh} (x : GF base w v h) : GI w v h := by
  obtain ⟨v5, v6, v7, v8, e, h5, h6, h7, h8⟩ := x
  exact ⟨v5, v6, v7, v8, e, h5.now, h6.now, h7.now, h8.now⟩
theorem GF.step {base : Nat} {w w' : World} {v : Value} {h : Fh} (x : GF base w v h) (k : KA base w w') : GF base w' v h := by
  obtain ⟨v5, v6, v7, v8, e, h5, h6, h7, h8⟩ := x
  exact ⟨v5, v6, v7, v8, e, h5.step k, h6.step k, h7.step k, h8.step k⟩
theorem GF.lower {base b : Nat} {w : World} {v : Value} {h : Fh} (x : GF b w v h) (hb : base ≤ b) : GF base w v h := by
  obtain ⟨v5, v6, v7, v8, e, h5, h6, h7, h8⟩ := x
  exact ⟨v5, v6, v7, v8, e, h5.lower hb, h6.lower hb, h7.lower hb, h8.lower hb⟩
theorem GF.mk {base : Nat} {w : World} {h : Fh} {v5 v6 v7 v8 : Value} (h5 : FI kSp base w v5 h.f5) (h6 : FI kSp base w v6 h.f6) (h7 : FI (Kd.int .u64) base w v7 h.f7) (h8 : FI (Kd.int .u64) base w v8 h.f8) :
    GF base w (.agg #[.int .i64 h.f0, .int .u64 h.f1, .int .u64 h.f2, .int .u64 h.f3, .int .u64 h.f4, v5, v6, v7, v8]) h := ⟨v5, v6, v7, v8, rfl, h5, h6, h7, h8⟩
theorem GF.empty (base : Nat) (w : World) : GF base w (.agg #[.int .i64 0, .int .u64 0, .int .u64 0, .int .u64 0, .int .u64 0, .slice none 0 0, .slice none 0 0, .slice none 0 0, .slice none 0 0]) emptyF :=
  GF.mk (h := emptyF) (fun w _ => SI.nil _ w) (fun w _ => SI.nil _ w) (fun w _ => SI.nil _ w) (fun w _ => SI.nil _ w)
theorem GF.open_ {base : Nat} {w : World} {v : Value} {h : Fh} (x : GF base w v h) : ∃ A5 c5 A6 c6 A7 c7 A8 c8, v = .agg #[.int .i64 h.f0, .int .u64 h.f1, .int .u64 h.f2, .int .u64 h.f3, .int .u64 h.f4, .slice A5 h.f5.length c5, .slice A6 h.f6.length c6, .slice A7 h.f7.length c7, .slice A8 h.f8.length c8] := by
  obtain ⟨A5, c5, A6, c6, A7, c7, A8, c8, e, -⟩ := x.now.open_
  exact ⟨A5, c5, A6, c6, A7, c7, A8, c8, e⟩
def wfF (h : Fh) : Prop := i64 h.f0 ∧ u64 h.f1 ∧ u64 h.f2 ∧ u64 h.f3 ∧ u64 h.f4 ∧ wfSps h.f5 ∧ wfSps h.f6 ∧ u64s h.f7 ∧ u64s h.f8 ∧ h.f7.length < 4398046511104 ∧ h.f8.length < 4398046511104
def openF (h : Fh) : List Pu × List Pu × Int :=
  if h.f0 < -4 ∨ h.f0 > 8 then ([], [], 21) else if rightF h.f1 = false then ([], [], 11) else if (!rightF h.f2 || !rightF h.f3) = true then ([], [], 22)
  else if (sideF h.f5 h.f7).2 ≠ 0 then ([], [], (sideF h.f5 h.f7).2) else if (sideF h.f6 h.f8).2 ≠ 0 then ([], [], (sideF h.f6 h.f8).2)
  else ((sideF h.f5 h.f7).1, (sideF h.f6 h.f8).1, 0)
def checkF (h : Fh) : Int := (openF h).2.2
set_option maxHeartbeats 16000000 in
set_option maxRecDepth 100000 in
theorem fopen_f (h : Fh) (hw : wfF h) (w : World) (v : Value) (hv : GI w v h) : Calls Try.prog 99 #[v] w fun e w' =>
    ∃ v0 v1 : Value, e = .returned (.tuple #[v0, v1, .int .i64 (openF h).2.2]) ∧ FI kPu w.heap.size w' v0 (openF h).1 ∧ FI kPu w.heap.size w' v1 (openF h).2.1 ∧ Below w.heap.size w w' := by
  have hud := Try.underlying55
  have th := thresh_c h.f1
  have wz := wrong_c h.f2
  have wc := wrong_c h.f3
  have s5 := fside_c h.f5 h.f7 hw.2.2.2.2.2.1 hw.2.2.2.2.2.2.2.2.2.1
  have s6 := fside_c h.f6 h.f8 hw.2.2.2.2.2.2.1 hw.2.2.2.2.2.2.2.2.2.2
  obtain ⟨A5, c5, A6, c6, A7, c7, A8, c8, e, h5, h6, h7, h8⟩ := hv.open_
  subst e
  have B := Aside0.mk (below_alloc (Below.refl w.heap.size w) (.cells #[.int .i64 h.f0, .int .u64 h.f1, .int .u64 h.f2, .int .u64 h.f3, .int .u64 h.f4, .slice A5 h.f5.length c5, .slice A6 h.f6.length c6, .slice A7 h.f7.length c7, .slice A8 h.f8.length c8] 55))
  have X := Aside0.mk (Blk.new w #[.int .i64 h.f0, .int .u64 h.f1, .int .u64 h.f2, .int .u64 h.f3, .int .u64 h.f4, .slice A5 h.f5.length c5, .slice A6 h.f6.length c6, .slice A7 h.f7.length c7, .slice A8 h.f8.length c8] 55)
  have hx := fun i => X.out.cell i
  have H5 := Aside0.mk (h5.below B.out)
  have H6 := Aside0.mk (h6.below B.out)
  have H7 := Aside0.mk (h7.below B.out)
  have H8 := Aside0.mk (h8.below B.out)
  clear hv h5 h6 h7 h8
  unfold openF
  generalize rightF h.f1 = r1 at *
  generalize rightF h.f2 = r2 at *
  generalize rightF h.f3 = r3 at *
  generalize sideF h.f5 h.f7 = q5 at *
  generalize sideF h.f6 h.f8 = q6 at *
  obtain ⟨p, e5⟩ := q5
  obtain ⟨n, e6⟩ := q6
  simp only at s5 s6 ⊢
  have TH := Aside0.mk th
  have WZ := Aside0.mk wz
  have WC := Aside0.mk wc
  have S5 := Aside0.mk s5
  have S6 := Aside0.mk s6
  clear th wz wc s5 s6 hw
  by_cases k1 : h.f0 < -4
  · rw [if_pos (Or.inl k1)]
    have k1b : decide (h.f0 < -4) = true := decide_eq_true k1
    clear k1
    go_enter Try.func99, Try.ntmps99
    go_wp2
    go_ret3
    exact ⟨_, _, rfl, fun w _ => SI.nil _ w, fun w _ => SI.nil _ w, B.out⟩
  by_cases k2 : h.f0 > 8
  · rw [if_pos (Or.inr k2)]
    have k1b : decide (h.f0 < -4) = false := decide_eq_false k1
    have k2b : decide (8 < h.f0) = true := decide_eq_true k2
    clear k1 k2
    go_enter Try.func99, Try.ntmps99
    go_wp2
    go_ret3
    exact ⟨_, _, rfl, fun w _ => SI.nil _ w, fun w _ => SI.nil _ w, B.out⟩
  rw [if_neg (by omega)]
  have k1b : decide (h.f0 < -4) = false := decide_eq_false k1
  have k2b : decide (8 < h.f0) = false := decide_eq_false k2
  clear k1 k2
  cases r1 with
  | false =>
    rw [if_pos rfl]
    go_enter Try.func99, Try.ntmps99
    go_wp2_with (first | (go_at_call 131; (with_reducible refine (TH.out _).mono ?_); rintro e W1 ⟨rfl, hb⟩; replace B := Aside0.mk (below_then B.out B.out.size hb); replace H5 := Aside0.mk (H5.out.below hb); replace H6 := Aside0.mk (H6.out.below hb); replace H7 := Aside0.mk (H7.out.below hb); replace H8 := Aside0.mk (H8.out.below hb); replace X := Aside0.mk (X.out.below hb); replace hx := fun i => X.out.cell i; clear  hb))
    go_ret3
    exact ⟨_, _, rfl, fun w _ => SI.nil _ w, fun w _ => SI.nil _ w, B.out⟩
  | true =>
    rw [if_neg (by simp)]
    cases r2 with
    | false =>
      rw [if_pos (by simp)]
      go_enter Try.func99, Try.ntmps99
      go_wp2_with (first | (go_at_call 131; (with_reducible refine (TH.out _).mono ?_); rintro e W1 ⟨rfl, hb⟩; replace B := Aside0.mk (below_then B.out B.out.size hb); replace H5 := Aside0.mk (H5.out.below hb); replace H6 := Aside0.mk (H6.out.below hb); replace H7 := Aside0.mk (H7.out.below hb); replace H8 := Aside0.mk (H8.out.below hb); replace X := Aside0.mk (X.out.below hb); replace hx := fun i => X.out.cell i; clear  hb) | (go_at_call 153; (with_reducible refine (WZ.out _).mono ?_); rintro e W2 ⟨rfl, hb⟩; replace B := Aside0.mk (below_then B.out B.out.size hb); replace H5 := Aside0.mk (H5.out.below hb); replace H6 := Aside0.mk (H6.out.below hb); replace H7 := Aside0.mk (H7.out.below hb); replace H8 := Aside0.mk (H8.out.below hb); replace X := Aside0.mk (X.out.below hb); replace hx := fun i => X.out.cell i; clear  hb))
      go_ret3
      exact ⟨_, _, rfl, fun w _ => SI.nil _ w, fun w _ => SI.nil _ w, B.out⟩
    | true =>
      cases r3 with
      | false =>
        rw [if_pos (by simp)]
        go_enter Try.func99, Try.ntmps99
        go_wp2_with (first | (go_at_call 131; (with_reducible refine (TH.out _).mono ?_); rintro e W1 ⟨rfl, hb⟩; replace B := Aside0.mk (below_then B.out B.out.size hb); replace H5 := Aside0.mk (H5.out.below hb); replace H6 := Aside0.mk (H6.out.below hb); replace H7 := Aside0.mk (H7.out.below hb); replace H8 := Aside0.mk (H8.out.below hb); replace X := Aside0.mk (X.out.below hb); replace hx := fun i => X.out.cell i; clear  hb) | (go_at_call 153; (with_reducible refine (WZ.out _).mono ?_); rintro e W2 ⟨rfl, hb⟩; replace B := Aside0.mk (below_then B.out B.out.size hb); replace H5 := Aside0.mk (H5.out.below hb); replace H6 := Aside0.mk (H6.out.below hb); replace H7 := Aside0.mk (H7.out.below hb); replace H8 := Aside0.mk (H8.out.below hb); replace X := Aside0.mk (X.out.below hb); replace hx := fun i => X.out.cell i; clear  hb) | (go_at_call 153; (with_reducible refine (WC.out _).mono ?_); rintro e W3 ⟨rfl, hb⟩; replace B := Aside0.mk (below_then B.out B.out.size hb); replace H5 := Aside0.mk (H5.out.below hb); replace H6 := Aside0.mk (H6.out.below hb); replace H7 := Aside0.mk (H7.out.below hb); replace H8 := Aside0.mk (H8.out.below hb); replace X := Aside0.mk (X.out.below hb); replace hx := fun i => X.out.cell i; clear  hb))
        go_ret3
        exact ⟨_, _, rfl, fun w _ => SI.nil _ w, fun w _ => SI.nil _ w, B.out⟩
      | true =>
        rw [if_neg (by simp)]
        by_cases d5 : e5 = 0
        rotate_left
        · rw [if_pos d5]
          have d5a : (e5 == 0) = false := beq_eq_false_iff_ne.2 d5
          have d5b : (e5 != 0) = true := bne_iff_ne.2 d5
          clear d5
          go_enter Try.func99, Try.ntmps99
          go_wp2_with (first | (go_at_call 131; (with_reducible refine (TH.out _).mono ?_); rintro e W1 ⟨rfl, hb⟩; replace B := Aside0.mk (below_then B.out B.out.size hb); replace H5 := Aside0.mk (H5.out.below hb); replace H6 := Aside0.mk (H6.out.below hb); replace H7 := Aside0.mk (H7.out.below hb); replace H8 := Aside0.mk (H8.out.below hb); replace X := Aside0.mk (X.out.below hb); replace hx := fun i => X.out.cell i; clear  hb) | (go_at_call 153; (with_reducible refine (WZ.out _).mono ?_); rintro e W2 ⟨rfl, hb⟩; replace B := Aside0.mk (below_then B.out B.out.size hb); replace H5 := Aside0.mk (H5.out.below hb); replace H6 := Aside0.mk (H6.out.below hb); replace H7 := Aside0.mk (H7.out.below hb); replace H8 := Aside0.mk (H8.out.below hb); replace X := Aside0.mk (X.out.below hb); replace hx := fun i => X.out.cell i; clear  hb) | (go_at_call 153; (with_reducible refine (WC.out _).mono ?_); rintro e W3 ⟨rfl, hb⟩; replace B := Aside0.mk (below_then B.out B.out.size hb); replace H5 := Aside0.mk (H5.out.below hb); replace H6 := Aside0.mk (H6.out.below hb); replace H7 := Aside0.mk (H7.out.below hb); replace H8 := Aside0.mk (H8.out.below hb); replace X := Aside0.mk (X.out.below hb); replace hx := fun i => X.out.cell i; clear  hb) | (go_at_call 154; (with_reducible refine (S5.out _ _ _ H5.out H7.out).mono ?_); rintro e W4 ⟨v5, rfl, hp, hb⟩; have hp := FI.lower hp B.out.size; replace B := Aside0.mk (below_then B.out B.out.size hb); replace H5 := Aside0.mk (H5.out.below hb); replace H6 := Aside0.mk (H6.out.below hb); replace H7 := Aside0.mk (H7.out.below hb); replace H8 := Aside0.mk (H8.out.below hb); replace X := Aside0.mk (X.out.below hb); replace hx := fun i => X.out.cell i; have P5 := Aside0.mk hp; have Q5 := Aside0.mk (show W4.heap.size = W4.heap.size from rfl); have hp' := P5.out; obtain ⟨pA, pc, ep⟩ := hp'.slice; subst ep; clear hp hb))
          go_ret3
          exact ⟨_, _, rfl, fun w _ => SI.nil _ w, fun w _ => SI.nil _ w, B.out⟩
        subst d5
        rw [if_neg (by simp)]
        by_cases d6 : e6 = 0
        rotate_left
        · rw [if_pos d6]
          have d6a : (e6 == 0) = false := beq_eq_false_iff_ne.2 d6
          have d6b : (e6 != 0) = true := bne_iff_ne.2 d6
          clear d6
          go_enter Try.func99, Try.ntmps99
          go_wp2_with (first | (go_at_call 131; (with_reducible refine (TH.out _).mono ?_); rintro e W1 ⟨rfl, hb⟩; replace B := Aside0.mk (below_then B.out B.out.size hb); replace H5 := Aside0.mk (H5.out.below hb); replace H6 := Aside0.mk (H6.out.below hb); replace H7 := Aside0.mk (H7.out.below hb); replace H8 := Aside0.mk (H8.out.below hb); replace X := Aside0.mk (X.out.below hb); replace hx := fun i => X.out.cell i; clear  hb) | (go_at_call 153; (with_reducible refine (WZ.out _).mono ?_); rintro e W2 ⟨rfl, hb⟩; replace B := Aside0.mk (below_then B.out B.out.size hb); replace H5 := Aside0.mk (H5.out.below hb); replace H6 := Aside0.mk (H6.out.below hb); replace H7 := Aside0.mk (H7.out.below hb); replace H8 := Aside0.mk (H8.out.below hb); replace X := Aside0.mk (X.out.below hb); replace hx := fun i => X.out.cell i; clear  hb) | (go_at_call 153; (with_reducible refine (WC.out _).mono ?_); rintro e W3 ⟨rfl, hb⟩; replace B := Aside0.mk (below_then B.out B.out.size hb); replace H5 := Aside0.mk (H5.out.below hb); replace H6 := Aside0.mk (H6.out.below hb); replace H7 := Aside0.mk (H7.out.below hb); replace H8 := Aside0.mk (H8.out.below hb); replace X := Aside0.mk (X.out.below hb); replace hx := fun i => X.out.cell i; clear  hb) | (go_at_call 154; (with_reducible refine (S5.out _ _ _ H5.out H7.out).mono ?_); rintro e W4 ⟨v5, rfl, hp, hb⟩; have hp := FI.lower hp B.out.size; replace B := Aside0.mk (below_then B.out B.out.size hb); replace H5 := Aside0.mk (H5.out.below hb); replace H6 := Aside0.mk (H6.out.below hb); replace H7 := Aside0.mk (H7.out.below hb); replace H8 := Aside0.mk (H8.out.below hb); replace X := Aside0.mk (X.out.below hb); replace hx := fun i => X.out.cell i; have P5 := Aside0.mk hp; have Q5 := Aside0.mk (show W4.heap.size = W4.heap.size from rfl); have hp' := P5.out; obtain ⟨pA, pc, ep⟩ := hp'.slice; subst ep; clear hp hb) | (go_at_call 154; (with_reducible refine (S6.out _ _ _ H6.out H8.out).mono ?_); rintro e W5 ⟨v6, rfl, hp, hb⟩; have hp := FI.lower hp B.out.size; replace B := Aside0.mk (below_then B.out B.out.size hb); replace H5 := Aside0.mk (H5.out.below hb); replace H6 := Aside0.mk (H6.out.below hb); replace H7 := Aside0.mk (H7.out.below hb); replace H8 := Aside0.mk (H8.out.below hb); replace P5 := Aside0.mk (P5.out.step (KA.below hb)); replace X := Aside0.mk (X.out.below hb); replace hx := fun i => X.out.cell i; have P6 := Aside0.mk hp; have hp' := P6.out; obtain ⟨nA, nc, en⟩ := hp'.slice; subst en; clear hp hb))
          go_ret3
          exact ⟨_, _, rfl, fun w _ => SI.nil _ w, fun w _ => SI.nil _ w, B.out⟩
        subst d6
        rw [if_neg (by simp)]
        go_enter Try.func99, Try.ntmps99
        go_wp2_with (first | (go_at_call 131; (with_reducible refine (TH.out _).mono ?_); rintro e W1 ⟨rfl, hb⟩; replace B := Aside0.mk (below_then B.out B.out.size hb); replace H5 := Aside0.mk (H5.out.below hb); replace H6 := Aside0.mk (H6.out.below hb); replace H7 := Aside0.mk (H7.out.below hb); replace H8 := Aside0.mk (H8.out.below hb); replace X := Aside0.mk (X.out.below hb); replace hx := fun i => X.out.cell i; clear  hb) | (go_at_call 153; (with_reducible refine (WZ.out _).mono ?_); rintro e W2 ⟨rfl, hb⟩; replace B := Aside0.mk (below_then B.out B.out.size hb); replace H5 := Aside0.mk (H5.out.below hb); replace H6 := Aside0.mk (H6.out.below hb); replace H7 := Aside0.mk (H7.out.below hb); replace H8 := Aside0.mk (H8.out.below hb); replace X := Aside0.mk (X.out.below hb); replace hx := fun i => X.out.cell i; clear  hb) | (go_at_call 153; (with_reducible refine (WC.out _).mono ?_); rintro e W3 ⟨rfl, hb⟩; replace B := Aside0.mk (below_then B.out B.out.size hb); replace H5 := Aside0.mk (H5.out.below hb); replace H6 := Aside0.mk (H6.out.below hb); replace H7 := Aside0.mk (H7.out.below hb); replace H8 := Aside0.mk (H8.out.below hb); replace X := Aside0.mk (X.out.below hb); replace hx := fun i => X.out.cell i; clear  hb) | (go_at_call 154; (with_reducible refine (S5.out _ _ _ H5.out H7.out).mono ?_); rintro e W4 ⟨v5, rfl, hp, hb⟩; have hp := FI.lower hp B.out.size; replace B := Aside0.mk (below_then B.out B.out.size hb); replace H5 := Aside0.mk (H5.out.below hb); replace H6 := Aside0.mk (H6.out.below hb); replace H7 := Aside0.mk (H7.out.below hb); replace H8 := Aside0.mk (H8.out.below hb); replace X := Aside0.mk (X.out.below hb); replace hx := fun i => X.out.cell i; have P5 := Aside0.mk hp; have Q5 := Aside0.mk (show W4.heap.size = W4.heap.size from rfl); have hp' := P5.out; obtain ⟨pA, pc, ep⟩ := hp'.slice; subst ep; clear hp hb) | (go_at_call 154; (with_reducible refine (S6.out _ _ _ H6.out H8.out).mono ?_); rintro e W5 ⟨v6, rfl, hp, hb⟩; have hp := FI.lower hp B.out.size; replace B := Aside0.mk (below_then B.out B.out.size hb); replace H5 := Aside0.mk (H5.out.below hb); replace H6 := Aside0.mk (H6.out.below hb); replace H7 := Aside0.mk (H7.out.below hb); replace H8 := Aside0.mk (H8.out.below hb); replace P5 := Aside0.mk (P5.out.step (KA.below hb)); replace X := Aside0.mk (X.out.below hb); replace hx := fun i => X.out.cell i; have P6 := Aside0.mk hp; have hp' := P6.out; obtain ⟨nA, nc, en⟩ := hp'.slice; subst en; clear hp hb))
        go_ret3
        exact ⟨_, _, rfl, P5.out, P6.out, B.out⟩
theorem fopen_c (h : Fh) (hw : wfF h) (w : World) (v : Value) (hv : GI w v h) : Calls Try.prog 99 #[v] w fun e w' =>
    ∃ v0 v1 : Value, e = .returned (.tuple #[v0, v1, .int .i64 (openF h).2.2]) ∧ SI kPu w' v0 (openF h).1 ∧ SI kPu w' v1 (openF h).2.1 ∧ Below w.heap.size w w' :=
  (fopen_f h hw w v hv).mono fun e w1 ⟨v0, v1, e1, h0, h1, hb⟩ => ⟨v0, v1, e1, h0.now, h1.now, hb⟩
set_option maxHeartbeats 4000000 in
set_option maxRecDepth 100000 in
theorem fcheck_c (h : Fh) (hw : wfF h) (w : World) (v : Value) (hv : GI w v h) : Calls Try.prog 37 #[v] w fun e w' =>
    e = .returned (.int .i64 (checkF h)) ∧ Below w.heap.size w w' := by
  have hu := Try.underlying55
  obtain ⟨A5, c5, A6, c6, A7, c7, A8, c8, e, -⟩ := hv.open_
  subst e
  have HV := Aside0.mk hv
  have HW := Aside0.mk hw
  clear hv hw
  go_enter Try.func37, Try.ntmps37
  go_wp2_with (go_at_call 99; (with_reducible refine (fopen_c h HW.out _ _ (HV.out.below (below_alloc (Below.refl _ _) _))).mono ?_); rintro e w1 ⟨v0, v1, rfl, h0, h1, hb⟩; have HB := Aside0.mk (below_then (below_alloc (Below.refl w.heap.size w) _) (by simp) hb); clear h0 h1 hb)
  go_ret
  exact ⟨rfl, HB.out⟩
def pairsF (h : Fh) (side : Int) : List Pu × Int := if side = 0 then ((openF h).1, (openF h).2.2) else if side = 1 then ((openF h).2.1, (openF h).2.2) else ([], 11)
set_option maxHeartbeats 4000000 in
set_option maxRecDepth 100000 in
theorem fpairs_c (h : Fh) (hw : wfF h) (side : Int) (w : World) (v : Value) (hv : GI w v h) : Calls Try.prog 90 #[v, .int .i64 side] w fun e w' =>
    ∃ v0, e = .returned (.tuple #[v0, .int .i64 (pairsF h side).2]) ∧ SI kPu w' v0 (pairsF h side).1 ∧ Below w.heap.size w w' := by
  have hu := Try.underlying55
  obtain ⟨A5, c5, A6, c6, A7, c7, A8, c8, e, -⟩ := hv.open_
  subst e
  have HV := Aside0.mk hv
  have HW := Aside0.mk hw
  clear hv hw
  unfold pairsF
  by_cases c0 : side = 0
  · subst c0
    rw [if_pos rfl]
    go_enter Try.func90, Try.ntmps90
    go_wp2_with (go_at_call 99; (with_reducible refine (fopen_c h HW.out _ _ (HV.out.below (below_alloc (Below.refl _ _) _))).mono ?_); rintro e w1 ⟨v0, v1, rfl, h0, h1, hb⟩; have HO := Aside0.mk h0; have HB := Aside0.mk (below_then (below_alloc (Below.refl w.heap.size w) _) (by simp) hb); clear h0 h1 hb)
    go_ret2
    exact ⟨_, rfl, HO.out, HB.out⟩
  · rw [if_neg c0]
    have c0a : (side == 0) = false := beq_eq_false_iff_ne.2 c0
    have c0b : (side != 0) = true := bne_iff_ne.2 c0
    by_cases c1 : side = 1
    · subst c1
      rw [if_pos rfl]
      clear c0
      go_enter Try.func90, Try.ntmps90
      go_wp2_with (go_at_call 99; (with_reducible refine (fopen_c h HW.out _ _ (HV.out.below (below_alloc (Below.refl _ _) _))).mono ?_); rintro e w1 ⟨v0, v1, rfl, h0, h1, hb⟩; have HO := Aside0.mk h1; have HB := Aside0.mk (below_then (below_alloc (Below.refl w.heap.size w) _) (by simp) hb); clear h0 h1 hb)
      go_ret2
      exact ⟨_, rfl, HO.out, HB.out⟩
    · rw [if_neg c1]
      have c1a : (side == 1) = false := beq_eq_false_iff_ne.2 c1
      have c1b : (side != 1) = true := bne_iff_ne.2 c1
      clear c0 c1
      go_enter Try.func90, Try.ntmps90
      go_wp2_with (go_at_call 99; (with_reducible refine (fopen_c h HW.out _ _ (HV.out.below (below_alloc (Below.refl _ _) _))).mono ?_); rintro e w1 ⟨v0, v1, rfl, h0, h1, hb⟩; have HO := Aside0.mk h1; have HB := Aside0.mk (below_then (below_alloc (Below.refl w.heap.size w) _) (by simp) hb); clear h0 h1 hb)
      go_ret2
      exact ⟨_, rfl, SI.nil _ _, HB.out⟩
end Go.Proofs.Ytooiccpmngmapaa.P
namespace Go.Proofs.Ytooiccpmngmapaa.P
open Go.RowKit Go.Shelf Go.Proofs.YtooiccpmngmapaaW.PrintWords Go.Proofs.YtooiccpmngmapaaW.PrintLast Go.Proofs.YtooiccpmngmapaaW.PrintMore
def PredP_uint64 (g : Nat) (cap : Array Value) (p : S192 → Bool) (w : World) : Prop :=
  ∀ (W : World) (x : S192), Below w.heap.size w W → Calls Try.prog g (#[.agg #[.int .i64 x.f0, .int .u64 x.f1]] ++ cap) W fun e w' => e = .returned (.bool (p x)) ∧ Below W.heap.size W w'
theorem rd_nat_uint64 (l : List S192) (i : Nat) (h : i < l.length) : rd_T192 l (i : Int) = l[i] := by
  unfold rd_T192; simp [List.getD, h]
set_option maxHeartbeats 2000000 in
theorem indexFunc_pairs_uint64 (g : Nat) (cap : Array Value) (p : S192 → Bool) (A : Option Addr) (c : Nat) (l : List S192) (w : World)
    (hr : Kd.C k192 w A l.length l) (hc : l.length ≤ c) (hm : l.length ≤ 9223372036854775807) (hp : PredP_uint64 g cap p w) (eg : ∀ args w, (callFunc g args).run Try.prog w = .ok (.enter g args) w) :
    Calls Try.prog 173 #[.slice A l.length c, .func (.func g) #[] cap] w fun e w' => e = .returned (.int .i64 (idxP p l)) ∧ Below w.heap.size w w' := by
  have hu := Try.underlying192
  have HR := Aside0.mk hr
  have HP := Aside0.mk hp
  clear hr hp
  go_enter Try.func173, Try.ntmps173
  go_wp2
  go_loopg [5, 8] l.length (fun gg _ s8 wr => ∃ kk : Nat, kk ≤ l.length ∧ l.length - kk ≤ gg ∧ s8 = .int .i64 kk ∧ Aside0 (Below w.heap.size w wr) ∧ Aside0 (∀ j (hj : j < kk) (hj2 : j < l.length), p l[j] = false))
  case atStart => exact ⟨0, Nat.zero_le _, by omega, rfl, ⟨Below.refl _ w⟩, ⟨fun j hj => absurd hj (Nat.not_lt_zero _)⟩⟩
  case round =>
    obtain ⟨kk, hkk, hg, rfl, HB, HA⟩ := hrel
    by_cases hlt : kk < l.length
    · have hlti : (kk : Int) < (l.length : Int) := by omega
      obtain ⟨ad, e1, hx0, hx1⟩ := at_T192 HR.out kk (by omega) (by omega)
      cases e1
      replace hx0 := (HB.out.cell (World.block_lt_of_cell? w _ hx0)).trans hx0
      replace hx1 := (HB.out.cell (World.block_lt_of_cell? w _ hx1)).trans hx1
      rw [rd_nat_uint64 l kk hlt, Int.toNat_natCast] at hx0 hx1
      have hcall := HP.out wr l[kk] HB.out
      generalize hy : l[kk] = y at hx0 hx1 hcall
      have HY := Aside0.mk hy
      clear hy
      cases hq : p y with
      | true =>
        rw [hq] at hcall
        have HQ := Aside0.mk hq
        clear hq
        have HC := Aside0.mk hcall
        clear hcall
        go_wp2_with (go_at_fn g; refine HC.out.mono ?_; rintro e w' ⟨rfl, hb'⟩)
        go_ret
        refine ⟨?_, HB.out.trans (hb'.mono HB.out.size)⟩
        rw [idxP_hit p l kk hlt (by rw [HY.out]; exact HQ.out) (fun j hj => HA.out j hj (by omega))]; rfl
      | false =>
        rw [hq] at hcall
        have HQ := Aside0.mk hq
        clear hq
        have HC := Aside0.mk hcall
        clear hcall
        go_wp2_with (go_at_fn g; refine HC.out.mono ?_; rintro e w' ⟨rfl, hb'⟩)
        go_roundg (l.length - (kk + 1))
        case measure => omega
        case rel =>
          refine ⟨kk + 1, by omega, by omega, by go_num, ⟨HB.out.trans (hb'.mono HB.out.size)⟩, ⟨fun j hj hj2 => ?_⟩⟩
          by_cases e : j = kk
          · subst e
            rw [HY.out]; exact HQ.out
          · exact HA.out j (by omega) hj2
    · have hlti : ¬ (kk : Int) < (l.length : Int) := by omega
      have hk : kk = l.length := by omega
      go_wp2
      go_ret
      refine ⟨?_, HB.out⟩
      rw [idxP_miss p l (fun j hj => HA.out j (by omega) hj)]; rfl
end Go.Proofs.Ytooiccpmngmapaa.P
namespace Go.Proofs.Ytooiccpmngmapaa.P
open Go.RowKit Go.Shelf Go.Proofs.YtooiccpmngmapaaW.PrintWords Go.Proofs.YtooiccpmngmapaaW.PrintLast Go.Proofs.YtooiccpmngmapaaW.PrintMore
def slices_Clone_pairU.f (l0 : List S192) : Option (List S192) := if l0.length < 8796093022208 then some l0 else none
set_option maxHeartbeats 2000000 in
set_option maxRecDepth 100000 in
theorem slices_Clone_pairU.calls (A0 : Option Addr) (c0 : Nat) (l0 r : List S192) (w : World) (hr0 : Kd.C k192 w A0 l0.length l0) (hc0 : l0.length ≤ c0) (h : slices_Clone_pairU.f l0 = some r) :
    Calls Try.prog 149 #[.slice A0 l0.length c0] w fun e w' => ∃ v0_ : Value, e = .returned (v0_) ∧ Kd.R k192 192 w' w.heap.size (fun _ => True) v0_ r ∧ Below w.heap.size w w' := by
  obtain ⟨hm, h2⟩ := of_ite_some h
  subst h2
  clear h
  have hu := Try.underlying129
  have HM := Aside0.mk hm
  clear hm
  cases A0 with
  | none =>
    have hl : l0 = [] := by
      rcases Nat.eq_zero_or_pos l0.length with h | h
      · exact List.length_eq_zero_iff.1 h
      · obtain ⟨ad, e, _⟩ := hr0.2.2 h
        cases e
    subst hl
    have hn : ∀ W n c, (binOp .eql 129 (.slice none n c) (.slice none 0 0)).run Try.prog W = .ok (.bool true) W := fun W n c => by
      exact Lib.run_eql_slice_nil W _ _ none n c 0 0 Try.underlying129
    go_enter Try.func149, Try.ntmps149
    go_wp2
    go_ret
    exact ⟨_, rfl, Kd.R_nil _ _ _ _ _, Below.refl _ _⟩
  | some ad =>
    have hn : ∀ W n c, (binOp .eql 129 (.slice (some ad) n c) (.slice none 0 0)).run Try.prog W = .ok (.bool false) W := fun W n c => by
      exact Lib.run_eql_slice_nil W _ _ (some ad) n c 0 0 Try.underlying129
    have HR := Aside0.mk hr0
    clear hr0
    go_enter Try.func149, Try.ntmps149
    go_wp2_with ((with_reducible refine gate_builtin (b := .append) (xs := #[.tmp 5, .tmp 6]) rfl ?_); at_builtin; refine Kd.R_append_rows k192 (w0 := w) (Rr := k192.K w) w.heap.size rfl (.tmp 5) (.tmp 6) 129 192 _ 16 rfl Try.underlying129 info192 rfl (by decide) (by omega) (.slice (some ⟨w.heap.size, 0, none⟩) 0 0) [] l0 (some ad) l0.length c0 (fun _ => True) (fun _ => False) rfl rfl ?aO ?aR ?aK (fun _ hk => hk.elim) (fun _ _ => trivial) ?aB ?aS ?aL ?_; (case aO => exact ⟨fun _ _ => trivial, [], ⟨rfl, .inr ⟨w.heap.size, 0, #[], rfl, Nat.le_refl _, by simpa using blk_new w _, Nat.le_refl _, by unfold maxLen; omega, rfl, rfl⟩⟩, Reps.none _ _⟩); (case aR => exact HR.out.imp_ (below_alloc (Below.refl _ _) _) (fun _ _ h => h)); (case aK => intro x cs hx; rw [k192_open hx]; exact k192_mkM _ _ _ x); (case aB => exact below_alloc (Below.refl _ _) _); (case aS => simp); (case aL => have := HM.out; simp; omega); intro v1 w1 ho hb hg hat; rw [List.nil_append] at ho; have HO := Aside0.mk ho; have HB := Aside0.mk hb; clear ho hb hg hat)
    go_ret
    exact ⟨_, rfl, HO.out, HB.out⟩
end Go.Proofs.Ytooiccpmngmapaa.P
namespace Go.Proofs.Ytooiccpmngmapaa.P
open Go.RowKit Go.Shelf Go.Proofs.YtooiccpmngmapaaW.PrintWords Go.Proofs.YtooiccpmngmapaaW.PrintLast Go.Proofs.YtooiccpmngmapaaW.PrintMore
theorem flat_uint64 : ∀ w w1 base ok x cs, k192.M w base ok x cs → k192.M w1 base ok x cs := fun w w1 base ok x cs h => by
  rw [k192_openM h]; exact k192_mkM _ _ _ x
theorem zero_uint64 (n : Nat) : (Builtin.zeroCells (Value.agg #[.int .i64 0, .int .u64 0]).cells n).toList.length = n * 2 ∧ ∀ v ∈ (Builtin.zeroCells (Value.agg #[.int .i64 0, .int .u64 0]).cells n).toList, v.oneCell' = true := by
  have hc : (Value.agg #[.int .i64 0, .int .u64 0]).cells = #[.int .i64 0, .int .u64 0] := by kernel_rfl
  rw [hc]
  refine ⟨by simp [Builtin.zeroCells], fun v hv => ?_⟩
  simp only [Builtin.zeroCells, Array.toList_map, List.mem_map] at hv
  obtain ⟨i, _, rfl⟩ := hv
  have : i % 2 = 0 ∨ i % 2 = 1 := by omega
  rcases this with h | h <;> simp [h] <;> rfl
set_option maxHeartbeats 4000000 in
set_option maxRecDepth 100000 in
theorem deleteFunc_uint64 (g : Nat) (cap : Array Value) (p : S192 → Bool) (w0 w : World) (v : Value) (xs : List S192)
    (HO : Kd.R k192 192 w w0.heap.size (fun _ => True) v xs) (HB : Below w0.heap.size w0 w) (hp : PredP_uint64 g cap p w0) (eg : ∀ args w, (callFunc g args).run Try.prog w = .ok (.enter g args) w) :
    Calls Try.prog 148 #[v, .func (.func g) #[] cap] w fun e w' => ∃ v' : Value, e = .returned v' ∧ Kd.R k192 192 w' w0.heap.size (fun _ => True) v' (xs.filter (fun x => !p x)) ∧ Below w0.heap.size w0 w' := by
  have hu := Try.underlying192
  obtain ⟨A, c, rfl, hlc, hC⟩ := Kd.R_reads HO
  have hm : xs.length ≤ 9223372036854775807 := hC.2.1
  have HI := indexFunc_pairs_uint64 g cap p A c xs w hC hlc hm (fun W x hb => hp W x (below_then HB HB.size hb)) eg
  have HX := idxP_cases p xs
  have HP := Aside0.mk hp
  clear hp
  generalize idxP p xs = ix at HI HX
  rcases HX with ⟨rfl, hfil⟩ | ⟨i0, hi0, rfl, hhit, hbef⟩
  · rw [hfil]
    have HI := Aside0.mk HI
    have HO := Aside0.mk HO
    have HB := Aside0.mk HB
    clear hC hfil
    go_enter Try.func148, Try.ntmps148
    go_wp2_with (go_at_call 173; refine HI.out.mono ?_; rintro e w' ⟨rfl, hb'⟩)
    go_ret
    exact ⟨_, rfl, Kd.R_below HO.out hb', below_then HB.out HB.out.size hb'⟩
  · obtain ⟨gb, cp, hv, hbg, hgl, cells, hcells⟩ := Kd.R_form HO (by omega)
    injection hv with hA _ hcp
    subst hA; subst hcp
    have hne : (((i0 : Int)) == -1) = false := beq_eq_false_iff_ne.2 (by omega)
    have HS := DelInv.start hi0 hhit hbef
    have HI := Aside0.mk HI
    have HO := Aside0.mk HO
    have HB := Aside0.mk HB
    have HS := Aside0.mk HS
    have HM := Aside0.mk hm
    have hi0' : i0 + 1 ≤ xs.length := hi0
    clear hC hhit hbef hcells
    go_enter Try.func148, Try.ntmps148
    go_wp2_with (go_at_call 173; refine HI.out.mono ?_; rintro e w' ⟨rfl, hb'⟩; have HO1 := Aside0.mk (Kd.R_below HO.out hb'); have HB1 := Aside0.mk (below_then HB.out HB.out.size hb'); clear hb' HI HO HB)
    go_loopg [5, 6] xs.length (fun gg s5 s6 wr => ∃ (i j : Nat) (ys : List S192), s5 = .int .i64 i ∧ s6 = .int .i64 j ∧ j ≤ xs.length ∧ xs.length - j ≤ gg ∧ Aside0 (DelInv p xs i j ys) ∧ Aside0 (Kd.R k192 192 wr w0.heap.size (fun _ => True) (.slice (some ⟨gb, 0, none⟩) xs.length c) ys) ∧ Aside0 (Below w0.heap.size w0 wr))
    case atStart => exact ⟨i0, i0 + 1, xs, rfl, by go_num, by omega, by omega, HS, HO1, HB1⟩
    case round =>
      obtain ⟨i, j, ys, rfl, rfl, hj, hg, HD, HO, HB⟩ := hrel
      clear HS HO1 HB1
      have hlen := HD.out.len
      have hij := HD.out.lt
      by_cases hlt : j < xs.length
      · have hlti : (j : Int) < (xs.length : Int) := by omega
        have hii : (i : Int) < (xs.length : Int) := by omega
        obtain ⟨hj2, hyx⟩ := HD.out.at_ hlt
        have hC := (Kd.R_reads' HO.out).2.2
        obtain ⟨ad, e1, hx0, hx1⟩ := at_T192 hC j (by omega) (by omega)
        cases e1
        rw [rd_nat_uint64 ys j hj2, Int.toNat_natCast, hyx] at hx0 hx1
        rw [add_plain] at hx0 hx1
        dsimp only at hx1
        have hcall := HP.out (wr.alloc (.cells #[.int .i64 xs[j].f0, .int .u64 xs[j].f1] 192)) xs[j] (below_then HB.out HB.out.size (below_alloc (Below.refl _ _) _))
        clear hC
        cases hq : p xs[j] with
        | true =>
          rw [hq] at hcall
          have HD' := Aside0.mk (HD.out.skip hlt hq)
          have HC := Aside0.mk hcall
          clear hcall hq hyx
          generalize xs[j] = y at hx0 hx1 HC
          go_wp2_with (go_at_fn g; refine HC.out.mono ?_; rintro e w' ⟨rfl, hb'⟩; have HB1 := Aside0.mk (below_then (below_then HB.out HB.out.size (below_alloc (Below.refl _ _) _)) (by have := HB.out.size; simp; omega) hb'); have HO1 := Aside0.mk (Kd.R_below (Kd.R_below HO.out (below_alloc (Below.refl _ _) _)) hb'); clear hb' HO HB)
          go_roundg (xs.length - (j + 1))
          case measure => omega
          case rel => exact ⟨i, j + 1, ys, rfl, by go_num, by omega, by omega, HD', HO1, HB1⟩
        | false =>
          rw [hq] at hcall
          have HD' := Aside0.mk (HD.out.keep hlt hq)
          have HC := Aside0.mk hcall
          clear hcall hq hyx
          generalize xs[j] = y at hx0 hx1 HC HD'
          go_wp2_with (first | (go_at_fn g; refine HC.out.mono ?_; rintro e w' ⟨rfl, hb'⟩; have hv0 : w'.cell? ⟨wr.heap.size, 0, none⟩ = some (.int .i64 y.f0) := (hb'.cell (p := ⟨wr.heap.size, 0, none⟩) (by simp)).trans (by simp); have hv1 : w'.cell? ⟨wr.heap.size, 1, none⟩ = some (.int .u64 y.f1) := (hb'.cell (p := ⟨wr.heap.size, 1, none⟩) (by simp)).trans (by simp); have HB1 := Aside0.mk (below_then (below_then HB.out HB.out.size (below_alloc (Below.refl _ _) _)) (by have := HB.out.size; simp; omega) hb'); have HO1 := Aside0.mk (Kd.R_below (Kd.R_below HO.out (below_alloc (Below.refl _ _) _)) hb'); clear hb' HO HB) | ((with_reducible refine gate_ (.store 192 (.tmp 33) (.tmp 32)) rfl ?_); obtain ⟨ce, hcl, hcM, hcc, hcf⟩ := Kd.R_elem HO1.out z192 (i : Int) (by omega) (by omega); refine Kd.R_store k192 (w0 := w0) w0.heap.size rfl rfl 192 (.tmp 33) (.tmp 32) rfl 192 (i : Int) 0 ys y (.agg #[.int .i64 y.f0, .int .u64 y.f1]) [.int .i64 y.f0, .int .u64 y.f1] ce (fun _ => True) (fun _ => False) (by first | rfl | simp) rfl rfl rfl (by kernel_rfl) (by intro q hq; simp at hq; rcases hq with rfl | rfl <;> rfl) HO1.out (by omega) (by omega) hcl hcc (by show 0 + 2 ≤ 2; omega) (by rw [show ce.drop (0 + [Value.int .i64 y.f0, Value.int .u64 y.f1].length) = [] from List.drop_eq_nil_of_le (by rw [hcl]; exact Nat.le_refl 2)]; exact k192_mkM _ _ _ y) (fun _ h => h.elim) HB1.out ?_; intro w1 ho hb hg; rw [Int.toNat_natCast] at ho; have HO2 := Aside0.mk ho; have HB2 := Aside0.mk hb; clear ho hb hg hcl hcM hcc hcf HO1 HB1))
          go_roundg (xs.length - (j + 1))
          case measure => omega
          case rel => exact ⟨i + 1, j + 1, ys.set i y, by go_num, by go_num, by omega, by omega, HD', HO2, HB2⟩
      · have hjx : j = xs.length := by omega
        subst hjx
        have hlti : ¬ (xs.length : Int) < (xs.length : Int) := by omega
        have hii : (i : Int) < (xs.length : Int) := by omega
        obtain ⟨inner, hown⟩ := Kd.R_own HO.out
        obtain ⟨cur, hcur, hcs, hnc⟩ : ∃ cur, wr.heap[gb]? = some (.cells cur 192 (0, 0)) ∧ cur.size = c * 2 ∧ xs.length ≤ c := by
          rcases hown.2 with ⟨hv, _⟩ | ⟨g', cap', cur, hv, hb, hh, hnc, hcm, hcs, ht⟩
          · cases hv
          · injection hv with ha _ hc
            injection ha with ha
            injection ha with hg'
            subst hg'; subst hc
            exact ⟨cur, hh, hcs, by omega⟩
        have hzl := zero_uint64 (xs.length - i)
        have hpc := piece_there hcur (i * 2) (Builtin.zeroCells (Value.agg #[.int .i64 0, .int .u64 0]).cells (xs.length - i)).toList.length (by rw [hzl.1]; omega)
        have hcl : ∀ ty, (Builtin.clear_ #[129] ty #[.slice (some ⟨gb, i * 2, none⟩) (xs.length - i) (c - i)]).run Try.prog wr = .ok (.tuple #[]) (wr.setCells gb (i * 2) (Builtin.zeroCells (Value.agg #[.int .i64 0, .int .u64 0]).cells (xs.length - i)).toList) := fun ty =>
          run_clear_cells wr _ _ ty (Value.agg #[.int .i64 0, .int .u64 0]) Try.underlying129 (fun w => by kernel_rfl) gb (i * 2) _ _ (by omega) hzl.2 hpc.1 hpc.2
        have HF := Aside0.mk HD.out.done
        have HR2 : Aside0 (Kd.R k192 192 (wr.setCells gb (i * 2) (Builtin.zeroCells (Value.agg #[.int .i64 0, .int .u64 0]).cells (xs.length - i)).toList) w0.heap.size (fun _ => True) (.slice (some ⟨gb, 0, none⟩) i c) (ys.take i)) := ⟨R_beyond flat_uint64 (Kd.R_take HO.out (by omega)) _ _ (by show i * 2 ≤ i * 2; omega) (by rw [hzl.1]; show i * 2 + (xs.length - i) * 2 ≤ c * 2; omega)⟩
        have HB2 : Aside0 (Below w0.heap.size w0 (wr.setCells gb (i * 2) (Builtin.zeroCells (Value.agg #[.int .i64 0, .int .u64 0]).cells (xs.length - i)).toList)) := ⟨by
          obtain ⟨h1, h2, h3, h4⟩ := setCells_same gb (Builtin.zeroCells (Value.agg #[.int .i64 0, .int .u64 0]).cells (xs.length - i)).toList (i * 2) wr
          refine HB.out.trans ⟨h1, h2, h3, by rw [h4]; exact Nat.le_refl _, fun k hk => setCells_far _ _ k (by omega)⟩⟩
        have hic : (c = i) = False := by simp; omega
        clear HO HB hpc hzl hcur hcs hown HD
        generalize (Builtin.zeroCells (Value.agg #[.int .i64 0, .int .u64 0]).cells (xs.length - i)).toList = seg at hcl HR2 HB2
        go_wp2
        go_ret
        exact ⟨_, rfl, by rw [← HF.out]; exact HR2.out, HB2.out⟩
set_option maxRecDepth 100000 in
theorem without1_uint64 (W : World) (x : S192) (B : Nat) (pl : Int) (hc : W.cell? ⟨B, 0, none⟩ = some (.int .u64 pl)) :
    Calls Try.prog 150 #[.agg #[.int .i64 x.f0, .int .u64 x.f1], .pointer (some ⟨B, 0, none⟩)] W fun e w' => e = .returned (.bool (x.f1 == pl)) ∧ Below W.heap.size W w' := by
  have hu := Try.underlying192
  have hB : B < W.heap.size := World.block_lt_of_cell? W ⟨B, 0, none⟩ hc
  have hc2 : (W.alloc (.cells #[.int .i64 x.f0, .int .u64 x.f1] 192)).cell? ⟨B, 0, none⟩ = some (.int .u64 pl) := ((below_alloc (Below.refl _ _) _).cell (p := ⟨B, 0, none⟩) hB).trans hc
  go_enter Try.func150, Try.ntmps150
  go_wp2
  go_ret
  exact ⟨rfl, (Below.refl _ _).alloc (Nat.le_refl _) _⟩
def pairs_Without_uint64.f (l0 : List S192) (a1 : Int) : Option (List S192) :=
  if l0.length < 8796093022208 then some (l0.filter (fun x => !(x.f1 == a1))) else none
set_option maxHeartbeats 2000000 in
set_option maxRecDepth 100000 in
theorem pairs_Without_uint64.calls (A0 : Option Addr) (c0 : Nat) (l0 : List S192) (a1 : Int) (r : List S192) (w : World) (hr0 : Kd.C k192 w A0 l0.length l0) (hc0 : l0.length ≤ c0) (h : pairs_Without_uint64.f l0 a1 = some r) :
    Calls Try.prog 94 #[.slice A0 l0.length c0, .int .u64 a1] w fun e w' => ∃ v0_ : Value, e = .returned (v0_) ∧ Kd.R k192 192 w' w.heap.size (fun _ => True) v0_ r ∧ Below w.heap.size w w' := by
  obtain ⟨hm, h2⟩ := of_ite_some h
  subst h2
  clear h
  have HC := Aside0.mk (slices_Clone_pairU.calls A0 c0 l0 l0 (w.alloc (.cells #[.int .u64 a1] 25)) (Kd.C_below hr0 (below_alloc (Below.refl _ _) _)) hc0 (by unfold slices_Clone_pairU.f; rw [if_pos hm]))
  have hp : PredP_uint64 150 #[.pointer (some ⟨w.heap.size, 0, none⟩)] (fun x => x.f1 == a1) (w.alloc (.cells #[.int .u64 a1] 25)) :=
    fun W x hb => without1_uint64 W x w.heap.size a1 ((hb.cell (p := ⟨w.heap.size, 0, none⟩) (by simp)).trans (by simp))
  have HD := Aside0.mk (fun w1 v ho hb => deleteFunc_uint64 150 #[.pointer (some ⟨w.heap.size, 0, none⟩)] (fun x => x.f1 == a1) (w.alloc (.cells #[.int .u64 a1] 25)) w1 v l0 ho hb hp (enters_of Try.func150 (by kernel_rfl) rfl))
  clear hp hm hr0 hc0
  go_enter Try.func94, Try.ntmps94
  go_wp2_with (first | (go_at_call 149; refine HC.out.mono ?_; rintro e w' ⟨v, rfl, ho, hb⟩; have HO := Aside0.mk ho; have HB := Aside0.mk hb; clear ho hb HC) | (go_at_call 148; refine (HD.out _ _ HO.out HB.out).mono ?_; rintro e w' ⟨v', rfl, ho, hb⟩; have HO2 := Aside0.mk ho; have HB2 := Aside0.mk hb; clear ho hb HD))
  go_ret
  refine ⟨_, rfl, Kd.R_lower HO2.out (by simp), below_then (below_alloc (Below.refl _ _) _) (by simp) HB2.out⟩
end Go.Proofs.Ytooiccpmngmapaa.P
namespace Go.Proofs.Ytooiccpmngmapaa.P
open Go.RowKit Go.Shelf Go.Proofs.YtooiccpmngmapaaW.PrintWords Go.Proofs.YtooiccpmngmapaaW.PrintLast Go.Proofs.YtooiccpmngmapaaW.PrintMore
def some0U (l : List Pu) : List Pu := l.filter (fun x => !(x.f1 == 0))
def wfRowU (l : List Pu) : Prop := wfPus l ∧ l.length < 4398046511104
structure RowOKU (l : List Pu) : Prop where
  wf : wfRowU l
  len : l.length ≤ 4096
  cnt : ∀ p ∈ l, rightF p.f1 = true
  ups : Ups (fun p : Pu => p.f0) l
theorem RowOKU.nil : RowOKU [] := ⟨⟨fun s hs => by simp at hs, by simp⟩, by simp, fun s hs => by simp at hs, Ups.nil⟩
theorem zip_upsU : ∀ (ps v : List Int), ps.Pairwise (· < ·) → Ups (fun p : Pu => p.f0) (List.zipWith (fun p x => (⟨p, x⟩ : Pu)) ps v)
  | [], _, _ => by simp [Ups]
  | p :: ps, [], _ => by simp [Ups]
  | p :: ps, x :: v, h => by
    have h1 := List.pairwise_cons.1 h
    refine List.pairwise_cons.2 ⟨fun y hy => ?_, zip_upsU ps v h1.2⟩
    have : y.f0 ∈ ps := by
      obtain ⟨i, hi, rfl⟩ := List.mem_iff_getElem.1 hy
      simp only [List.getElem_zipWith]; exact List.getElem_mem _
    exact h1.1 _ this
theorem sideF_row {l : List Sp} {c : List Int} (hc : u64s c) : RowOKU (sideF l c).1 := by
  unfold sideF
  by_cases c1 : spCheck l = 0
  rotate_left
  · rw [if_neg c1]; exact RowOKU.nil
  rw [if_pos c1]
  by_cases c2 : cntN l = c.length
  rotate_left
  · rw [if_neg c2]; exact RowOKU.nil
  rw [if_pos c2]
  by_cases c3 : c.any (fun v => !rightF v) = true
  · rw [if_pos c3]; exact RowOKU.nil
  rw [if_neg c3]
  have hr := rises_of_right c1
  have hf : ∀ p ∈ List.zipWith (fun p x => (⟨p, x⟩ : Pu)) (plN 0 l) c, (-1048576 ≤ p.f0 ∧ p.f0 ≤ 1048576) ∧ p.f1 ∈ c := by
    intro y hy
    obtain ⟨i, hi, rfl⟩ := List.mem_iff_getElem.1 hy
    simp only [List.getElem_zipWith]
    exact ⟨rises_i64 hr _ (List.getElem_mem _), List.getElem_mem _⟩
  have hl : (List.zipWith (fun p x => (⟨p, x⟩ : Pu)) (plN 0 l) c).length ≤ 4096 := by have := places_len c1; simp; omega
  simp only
  refine ⟨⟨fun p hp => ?_, by omega⟩, hl, fun p hp => ?_, zip_upsU _ _ (rises_ups _ _ hr).1⟩
  · have h1 := hf p hp; have h2 := h1.1; exact ⟨⟨by omega, by omega⟩, hc _ h1.2⟩
  · have h1 := hf p hp
    cases hq : rightF p.f1 with
    | true => rfl
    | false => exact absurd (List.any_eq_true.2 ⟨_, h1.2, by rw [hq]; rfl⟩) c3
theorem openF_row {h : Fh} (hw : wfF h) : RowOKU (openF h).1 ∧ RowOKU (openF h).2.1 := by
  obtain ⟨-, -, -, -, -, -, -, h7, h8, -⟩ := hw
  have a := sideF_row (l := h.f5) h7
  have b := sideF_row (l := h.f6) h8
  unfold openF
  repeat' split
  all_goals first | exact ⟨a, b⟩ | exact ⟨RowOKU.nil, RowOKU.nil⟩
theorem withoutU_c (l : List Pu) (hl : l.length ≤ 4611686018427) (w : World) (v : Value) (hv : SI kPu w v l) : Calls Try.prog 94 #[v, .int .u64 0] w fun e w' =>
    ∃ v', e = .returned v' ∧ SI kPu w' v' (some0U l) ∧ Below w.heap.size w w' := by
  obtain ⟨A, c, rfl, hc, hr⟩ := hv
  refine (pairs_Without_uint64.calls A c l 0 (some0U l) w hr hc (if_pos (by omega))).mono ?_
  rintro e w1 ⟨v0, rfl, h0, hb⟩
  exact ⟨v0, rfl, .of_R h0, hb⟩
theorem some0U_wf {l : List Pu} (h : wfRowU l) : wfRowU (some0U l) := ⟨fun s hs => h.1 s (List.mem_filter.1 hs).1, Nat.lt_of_le_of_lt (List.length_filter_le _ _) h.2⟩
end Go.Proofs.Ytooiccpmngmapaa.P
