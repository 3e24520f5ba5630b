/- RankQuantiles: the part that this text bears of the proof that the statement answers true for every input. No condition. -/
import Derived.Test.YtfbjjbbhnmoolaaProg
import Derived.Below
import Derived.Deep.Draws
import Derived.Deep.AppendLies
import Derived.Maps.AppendAt
import Derived.OwnWalk
import Derived.Laws.BytesArg
import Derived.Laws.MakeOwn
import Derived.Laws.OwnMore
import Derived.Deep.OwnRows
import Derived.Tactics
import Derived.Lib.ConvBytes
import Derived.Laws.Slices
import Derived.WalkKit
import Derived.KernelRfl
import Derived.RowKit3
import Derived.Deep.LoopGhost
import Derived.Deep.QuietTactic
import Derived.BigQuiet
import Derived.WideLaws
import Derived.Deep.DeepCutAuto
import Derived.Deep.CutBlock
import Derived.Deep.RegionHeld3
import Derived.Laws.Rows
import Derived.Lib.AppendStr
import Derived.ArgAppend
import Derived.Laws.IdiomCopy
import Derived.OrdersHeld
import Derived.Laws.BitsLemmas
import Derived.RowKit
import Derived.Shelf.Abstract
import Derived.WalkSpells
import Derived.RangeFuncNested
import Derived.RangeFuncBound
import Derived.RangeFuncCalls
import Derived.RangeFuncLeaves
import Derived.RangeFuncBox
import Derived.OwnWalkIn
import Derived.TacticsInMore
import Derived.LoopNIn
import Derived.LoopIn
import Derived.Deep.Slices
import Derived.ChangeArms
import Derived.Laws.Externs
import Derived.Shelf.Spec.BitsCarry
import Derived.RegionIn
import Derived.Sort.QuietTacIn
import Derived.Deep.RegionWith
import Derived.Laws.StructEq
import Derived.Test.YtfbjjbbhnmoolaaQRankQuantilesWWords
import Derived.Test.YtfbjjbbhnmoolaaQRankQuantilesWLast
import Derived.Test.YtfbjjbbhnmoolaaQRankQuantilesWTab
import Derived.Test.YtfbjjbbhnmoolaaQRankQuantilesWFour
import Derived.Test.YtfbjjbbhnmoolaaQRankQuantilesWQPut
import Derived.Test.YtfbjjbbhnmoolaaQRankQuantilesWApart
import Derived.Test.YtfbjjbbhnmoolaaQRankQuantilesWArr
import Derived.Test.YtfbjjbbhnmoolaaQRankQuantilesWZeros
import Derived.Test.YtfbjjbbhnmoolaaQRankQuantilesWFoot
import Derived.Test.YtfbjjbbhnmoolaaQRankQuantilesWKept
import Derived.Test.YtfbjjbbhnmoolaaQRankQuantilesWShare
import Derived.Test.YtfbjjbbhnmoolaaQRankQuantilesWN
import Derived.Test.YtfbjjbbhnmoolaaQRankQuantilesWFootNe
import Derived.Test.YtfbjjbbhnmoolaaQRankQuantilesWAt
import Derived.Test.YtfbjjbbhnmoolaaQRankQuantilesWEqStruct
import Derived.Test.YtfbjjbbhnmoolaaQRankQuantilesWRepsOne
import Derived.Test.YtfbjjbbhnmoolaaQRankQuantilesWInv
import Derived.Test.YtfbjjbbhnmoolaaQRankQuantilesWInvWords
import Derived.Test.YtfbjjbbhnmoolaaQRankQuantilesWGuard
import Derived.Test.YtfbjjbbhnmoolaaQRankQuantilesWNEv
import Derived.Test.YtfbjjbbhnmoolaaQRankQuantilesWMore
import Derived.Test.YtfbjjbbhnmoolaaRows
import Derived.Test.YtfbjjbbhnmoolaaQRankQuantiles0
set_option linter.unusedVariables false
set_option linter.unusedSimpArgs false
namespace Go.Proofs.Ytfbjjbbhnmoolaa.P
open Go.RowKit Go.Shelf Go.Proofs.YtfbjjbbhnmoolaaW.PrintWords Go.Proofs.YtfbjjbbhnmoolaaW.PrintLast Go.Proofs.YtfbjjbbhnmoolaaW.PrintMore
attribute [local go_sem] Oper.semAt_some
def runAt : Int → Nat → List Int
  | _, 0 => []
  | a, n + 1 => a :: runAt (wrap64 (a + 1)) n
def runEnd : Int → Nat → Int
  | a, 0 => a
  | a, n + 1 => runEnd (wrap64 (a + 1)) n
theorem runAt_snoc : ∀ (n : Nat) (a : Int), runAt a (n + 1) = runAt a n ++ [runEnd a n]
  | 0, _ => rfl
  | n + 1, a => by
    show a :: runAt (wrap64 (a + 1)) (n + 1) = a :: runAt (wrap64 (a + 1)) n ++ [runEnd (wrap64 (a + 1)) n]
    rw [runAt_snoc n]; rfl
theorem runEnd_snoc : ∀ (n : Nat) (a : Int), runEnd a (n + 1) = wrap64 (runEnd a n + 1)
  | 0, _ => rfl
  | n + 1, a => by
    show runEnd (wrap64 (a + 1)) (n + 1) = wrap64 (runEnd (wrap64 (a + 1)) n + 1)
    rw [runEnd_snoc n]
theorem runAt_length : ∀ (n : Nat) (a : Int), (runAt a n).length = n
  | 0, _ => rfl
  | n + 1, a => by show (runAt (wrap64 (a + 1)) n).length + 1 = n + 1; rw [runAt_length n]
def placesAt : Int → List S86 → List Int
  | _, [] => []
  | a, s :: r => runAt (wrap64 (a + s.f0)) s.f1.toNat ++ placesAt (runEnd (wrap64 (a + s.f0)) s.f1.toNat) r
def endAt : Int → List S86 → Int
  | a, [] => a
  | a, s :: r => endAt (runEnd (wrap64 (a + s.f0)) s.f1.toNat) r
theorem placesAt_snoc (s : S86) : ∀ (l : List S86) (a : Int), placesAt a (l ++ [s]) = placesAt a l ++ runAt (wrap64 (endAt a l + s.f0)) s.f1.toNat
  | [], a => by simp [placesAt, endAt]
  | x :: l, a => by simp [placesAt, endAt, placesAt_snoc s l]
theorem endAt_snoc (s : S86) : ∀ (l : List S86) (a : Int), endAt a (l ++ [s]) = runEnd (wrap64 (endAt a l + s.f0)) s.f1.toNat
  | [], a => by simp [endAt]
  | x :: l, a => by simp [endAt, endAt_snoc s l]
theorem placesAt_take_le (l : List S86) (k : Nat) : (placesAt 0 (l.take k)).length ≤ (placesAt 0 l).length := by
  have : ∀ (l r : List S86) (a : Int), (placesAt a l).length ≤ (placesAt a (l ++ r)).length := by
    intro l
    induction l with
    | nil => intro r a; simp [placesAt]
    | cons x l ih => intro r a; simp [placesAt]; exact ih _ _
  have h := this (l.take k) (l.drop k) 0
  rwa [List.take_append_drop] at h
theorem placesAt_prefix (l r : List S86) : placesAt 0 l <+: placesAt 0 (l ++ r) := by
  have : ∀ (l r : List S86) (a : Int), placesAt a l <+: placesAt a (l ++ r) := by
    intro l
    induction l with
    | nil => intro r a; simp [placesAt]
    | cons x l ih => intro r a; simp only [placesAt, List.cons_append]; exact (List.prefix_append_right_inj _).2 (ih _ _)
  exact this l r 0
def numd (ps : List Int) : List (Int × Int) := ps.zipIdx.map fun p => (((p.2 : Nat) : Int), p.1)
theorem numd_snoc (ps : List Int) (p : Int) : numd (ps ++ [p]) = numd ps ++ [((ps.length : Int), p)] := by
  simp [numd, List.zipIdx_append]
theorem numd_length (ps : List Int) : (numd ps).length = ps.length := by simp [numd]
theorem numd_prefix {a b : List Int} (h : a <+: b) : numd a <+: numd b := by
  obtain ⟨c, rfl⟩ := h
  unfold numd
  rw [List.zipIdx_append, List.map_append]
  exact List.prefix_append _ _
def KeepR (n0 n1 : Nat) (W W' : World) : Prop := W.heap.size ≤ W'.heap.size ∧ ∀ k, n0 ≤ k → k < n1 → W'.heap[k]? = W.heap[k]?
theorem KeepR.refl (n0 n1 : Nat) (W : World) : KeepR n0 n1 W W := ⟨Nat.le_refl _, fun _ _ _ => rfl⟩
theorem KeepR.trans {n0 n1 : Nat} {A B C : World} (h : KeepR n0 n1 A B) (k : KeepR n0 n1 B C) : KeepR n0 n1 A C := ⟨Nat.le_trans h.1 k.1, fun i h0 h1 => (k.2 i h0 h1).trans (h.2 i h0 h1)⟩
theorem KeepR.put {n0 n1 : Nat} {w : World} (hn : n1 ≤ w.heap.size) (W : World) (l : Nat) (o o' : Obj) (hl : w.heap.size ≤ l) (h : W.heap[l]? = some o) (_ : o.isCells = false) (_ : o.isWalk = false) : KeepR n0 n1 W (W.putObj l o') := by
  have hg := grownBy_putObj' W l o'
  refine ⟨hg.size, fun k h0 h1 => hg.block k ?_ (fun e => by injection e with e; omega)⟩
  have := (Array.getElem?_eq_some_iff.1 h).1
  omega
theorem KeepR.of_below {n0 n1 : Nat} {B : Nat} {W W' : World} (h : Below B W W') (hn : n1 ≤ B) : KeepR n0 n1 W W' := ⟨h.size, fun k _ h1 => h.block k (by omega)⟩
def HoldsSp (n0 n1 Bn : Nat) (v : Value) (l : List S86) (W : World) : Prop :=
  (n0 ≤ Bn ∧ Bn < n1) ∧ n1 ≤ W.heap.size ∧ W.heap[Bn]? = some (.cells #[v] 23 (0, 0)) ∧ Kd.R k86 86 W n0 (fun k => n0 ≤ k ∧ k < n1) v l
theorem HoldsSp.keep {n0 n1 Bn : Nat} {v : Value} {l : List S86} {W W' : World} (h : HoldsSp n0 n1 Bn v l W) (k : KeepR n0 n1 W W') : HoldsSp n0 n1 Bn v l W' :=
  ⟨h.1, Nat.le_trans h.2.1 k.1, (k.2 Bn h.1.1 h.1.2).trans h.2.2.1, Kd.R_move h.2.2.2 (fun q hq => k.2 q hq.1 hq.2)⟩
set_option maxRecDepth 100000 in
set_option maxHeartbeats 4000000 in
theorem all1_in (n : Nat) (hn : 1 ≤ n) (L n0 n1 Bn : Nat) (v : Value) (l : List S86) (k : Nat) (hck : span_Check.f k l = some 0) (hN : (placesAt 0 l).length ≤ 4611686018427387904) (J Jx : List (Int × Int) → World → Prop)
    (hJ : ∀ s W W', J s W → W.grownBy W' none → J s W')
    (hY : ∀ pre x W, J pre W → pre.length < (placesAt 0 l).length → YieldAt Fence.wide (n - 1) Try.prog L #[.int .i64 x.1, .int .i64 x.2] W fun e W' =>
      (e = .returned (.bool true) ∧ J (pre ++ [x]) W' ∧ KeepR n0 n1 W W') ∨ (e = .returned (.bool false) ∧ Jx (pre ++ [x]) W'))
    (W : World) (hS : HoldsSp n0 n1 Bn v l W) (h0 : J [] W) :
    CallsIn Fence.wide n Try.prog 150 #[.func (.yield L) #[] #[], .pointer (some ⟨Bn, 0, none⟩)] W fun e W' => (∃ v, e = .returned v) ∧
      ((∃ ys, ys = numd (placesAt 0 l) ∧ J ys W') ∨ (∃ pre, pre <+: numd (placesAt 0 l) ∧ Jx pre W')) := by
  have hu := Try.underlying86
  have hf : Fence.wide.fn 104 := trivial
  obtain ⟨A, c, rfl, hlc, hC⟩ := Kd.R_reads hS.2.2.2
  have hcell : W.cell? ⟨Bn, 0, none⟩ = some (.slice A l.length c) := by
    have := blk_cell (i := 0) hS.2.2.1
    rw [this]; rfl
  have hm : l.length ≤ 9223372036854775807 := hC.2.1
  have HCk := Aside0.mk (span_Check.calls k A c l 0 W hC hlc hck)
  have HJ := Aside0.mk hJ
  have HY := Aside0.mk hY
  have HS := Aside0.mk hS
  have H0 := Aside0.mk h0
  clear hJ hY hS h0 hC
  refine callsIn_of_wp Try.func150 rfl trivial ?_ rfl
  simp only [Try.ntmps150, List.size_toArray, List.length_cons, List.length_nil, Nat.reduceAdd, Nat.reduceSub, Array.replicate_succ, Array.replicate_zero, List.push_toArray, List.append_toArray, List.nil_append, List.cons_append]
  gi_wp2_with (gi_at_call 104; refine (callsIn_wide.2 HCk.out).mono ?_; rintro e w1 ⟨rfl, hb⟩; have HB := Aside0.mk hb; have hcell1 := (hb.cell (World.block_lt_of_cell? W _ hcell)).trans hcell; clear hb hcell)
  have HS1 := Aside0.mk (HS.out.keep (KeepR.of_below HB.out HS.out.2.1))
  have H1 := Aside0.mk (HJ.out _ _ _ H0.out (grown_of_below HB.out none))
  clear HS H0 HB HCk
  gi_loopw [3, 4, 12] (fun s3 s4 s12 wr => ∃ kk : Nat, kk ≤ l.length ∧ s12 = .int .i64 kk ∧ s3 = .int .i64 (endAt 0 (l.take kk)) ∧ s4 = .int .i64 ((placesAt 0 (l.take kk)).length : Int) ∧ Aside0 (HoldsSp n0 n1 Bn (.slice A l.length c) l wr) ∧ Aside0 (J (numd (placesAt 0 (l.take kk))) wr)) (fun _ _ s12 _ => l.length - (intOf s12).toNat)
  case atStart => exact ⟨0, Nat.zero_le _, rfl, by simp [endAt], by simp [placesAt], HS1, by simpa [placesAt, numd] using H1⟩
  case round =>
    obtain ⟨kk, hkk, rfl, rfl, rfl, HS, HJ0⟩ := hrel
    clear HS1 H1
    by_cases hlt : kk < l.length
    · have hlti : (kk : Int) < (l.length : Int) := by omega
      have hC := (Kd.R_reads' HS.out.2.2.2).2.2
      obtain ⟨ad, e1, hx0, hx1⟩ := at_T86 hC kk (by omega) (by omega)
      cases e1
      clear hC
      have hrd : rd_T86 l (kk : Int) = l[kk] := by unfold rd_T86; simp [List.getD, hlt]
      rw [hrd, Int.toNat_natCast] at hx0 hx1
      have HT := Aside0.mk (List.take_succ_eq_append_getElem hlt)
      generalize l[kk] = y at hx0 hx1 HT hrd
      clear hrd
      obtain ⟨wo, rfl⟩ : ∃ wo : World, wo = wr := ⟨_, rfl⟩
      have hple : (placesAt 0 (l.take kk)).length ≤ 4611686018427387904 := Nat.le_trans (placesAt_take_le l kk) hN
      have HP1 := Aside0.mk (placesAt_snoc y (l.take kk) 0)
      have HE1 := Aside0.mk (endAt_snoc y (l.take kk) 0)
      have HLE : Aside0 ((placesAt 0 (l.take kk)).length + y.f1.toNat ≤ (placesAt 0 l).length ∧ placesAt 0 (l.take kk) ++ runAt (wrap64 (endAt 0 (l.take kk) + y.f0)) y.f1.toNat <+: placesAt 0 l) := by
        have h := placesAt_prefix (l.take (kk + 1)) (l.drop (kk + 1))
        rw [List.take_append_drop, HT.out, HP1.out] at h
        refine ⟨⟨?_, h⟩⟩
        have := h.length_le
        rwa [List.length_append, runAt_length] at this
      rw [← HT.out] at HP1 HE1
      clear HT
      generalize endAt 0 (l.take kk) = at0 at HP1 HE1 HLE
      generalize placesAt 0 (l.take kk) = ps at HP1 HLE HJ0 hple
      have HS0 := Aside0.mk (HS.out.keep (KeepR.of_below (below_alloc (Below.refl _ wo) (.cells #[.int .i64 y.f0, .int .i64 y.f1] 86)) HS.out.2.1))
      have HJ1 := Aside0.mk (HJ.out _ _ _ HJ0.out (grown_of_below (below_alloc (Below.refl _ wo) (.cells #[.int .i64 y.f0, .int .i64 y.f1] 86)) none))
      clear HS HJ0
      gi_wp2
      gi_loopw [3, 4, 22] (fun s3 s4 s22 wr => ∃ i : Nat, i ≤ y.f1.toNat ∧ s22 = .int .i64 i ∧ s3 = .int .i64 (runEnd (wrap64 (at0 + y.f0)) i) ∧ s4 = .int .i64 ((ps.length : Int) + (i : Int)) ∧ Aside0 (HoldsSp n0 n1 Bn (.slice (some ad) l.length c) l wr) ∧ Aside0 (J (numd (ps ++ runAt (wrap64 (at0 + y.f0)) i)) wr)) (fun _ _ s22 _ => (y.f1 - intOf s22).toNat)
      case atStart => exact ⟨0, Nat.zero_le _, rfl, rfl, by simp, HS0, by simpa [runAt] using HJ1⟩
      case round =>
        obtain ⟨i, hi, rfl, rfl, rfl, HS, HJ0⟩ := hrel
        clear HS0 HJ1
        by_cases hli : (i : Int) < y.f1
        · have hlen : (ps ++ runAt (wrap64 (at0 + y.f0)) i).length = ps.length + i := by rw [List.length_append, runAt_length]
          have hlt2 : ps.length + i < (placesAt 0 l).length := by have := HLE.out.1; omega
          have hnx : (ps.length : Int) + (i : Int) + 1 ≤ 4611686018427387904 := by omega
          have hn0 : 0 ≤ (ps.length : Int) + (i : Int) := by omega
          have hy1 : y.f1 ≤ 4611686018427387904 := by have := HLE.out.1; omega
          obtain ⟨fn, tmps, assign, body, hy, hR⟩ := HY.out (numd (ps ++ runAt (wrap64 (at0 + y.f0)) i)) ((ps.length : Int) + (i : Int), runEnd (wrap64 (at0 + y.f0)) i) wr HJ0.out (by rw [numd_length, hlen]; exact hlt2)
          dsimp only at hy
          have HA := Aside0.mk (runAt_snoc i (wrap64 (at0 + y.f0)))
          have HE := Aside0.mk (runEnd_snoc i (wrap64 (at0 + y.f0)))
          have HNS := Aside0.mk (numd_snoc (ps ++ runAt (wrap64 (at0 + y.f0)) i) (runEnd (wrap64 (at0 + y.f0)) i))
          have HL := Aside0.mk hlen
          have HRR := Aside0.mk hR
          clear hR hlen HJ0
          gi_wp2
          refine HRR.out.mono ?_
          rintro e W3 (⟨rfl, hJ3, hk3⟩ | ⟨rfl, hJx3⟩)
          · have HJ3 := Aside0.mk hJ3
            have HS3 := Aside0.mk (HS.out.keep hk3)
            clear hJ3 hk3
            gi_wp2
            go_roundw
            case rel => 
              refine ⟨i + 1, by omega, by go_num, by rw [HE.out], by go_num, HS3, ⟨?_⟩⟩
              rw [HA.out, ← List.append_assoc, HNS.out, HL.out]
              exact HJ3.out
            case measure => simp [intOf]; omega
          · have HX := Aside0.mk hJx3
            clear hJx3
            gi_wp2
            refine bodyPost_ret (results_none rfl _ _ _) rfl ?_
            refine ⟨⟨_, rfl⟩, .inr ⟨_, ?_, HX.out⟩⟩
            have h1 := numd_prefix HLE.out.2
            have hi1 : i + 1 ≤ y.f1.toNat := by omega
            have h2 : ps ++ runAt (wrap64 (at0 + y.f0)) (i + 1) <+: ps ++ runAt (wrap64 (at0 + y.f0)) y.f1.toNat := by
              refine (List.prefix_append_right_inj _).2 ?_
              have : ∀ (m j : Nat) (a : Int), j ≤ m → runAt a j <+: runAt a m := by
                intro m
                induction m with
                | zero => intro j a hj; obtain rfl : j = 0 := by omega
                          exact List.prefix_rfl
                | succ m ih =>
                  intro j a hj
                  cases j with
                  | zero => exact List.nil_prefix
                  | succ j => exact (List.cons_prefix_cons).2 ⟨rfl, ih j _ (by omega)⟩
              exact this _ _ _ hi1
            have h3 := (numd_prefix h2).trans h1
            rw [HA.out, ← List.append_assoc, HNS.out, HL.out] at h3
            exact h3
        · have hie : i = y.f1.toNat := by omega
          have hli' : ¬ (i : Int) < y.f1 := hli
          gi_wp2
          go_roundw
          case rel =>
            refine ⟨kk + 1, by omega, by go_num, ?_, ?_, HS, ?_⟩
            · rw [HE1.out, hie]
            · rw [HP1.out, List.length_append, runAt_length, hie]; go_num
            · rw [HP1.out, ← hie]; exact HJ0
          case measure => simp [intOf]; omega
    · have hlti : ¬ (kk : Int) < (l.length : Int) := by omega
      have hk : l.take kk = l := List.take_of_length_le (by omega)
      have HK := Aside0.mk hk
      clear hk
      gi_wp2
      go_end0
      have hj := HJ0.out
      rw [HK.out] at hj
      exact ⟨⟨_, rfl⟩, .inl hj⟩
theorem all_in (n : Nat) (hn : 1 ≤ n) (A0 : Option Addr) (c0 : Nat) (l0 : List S86) (w : World) (hr0 : Kd.C k86 w A0 l0.length l0) (hc0 : l0.length ≤ c0) (hm : l0.length < 8796093022208) :
    CallsIn Fence.wide n Try.prog 129 #[.slice A0 l0.length c0] w fun e w' => ∃ (Bn : Nat) (v : Value), e = .returned (.func (.func 150) #[] #[.pointer (some ⟨Bn, 0, none⟩)]) ∧ HoldsSp w.heap.size w'.heap.size Bn v l0 w' ∧ Below w.heap.size w w' := by
  have hf : Fence.wide.fn 51 := trivial
  have HC := Aside0.mk (slices_Clone_span.calls A0 c0 l0 l0 w hr0 hc0 (by unfold slices_Clone_span.f; rw [if_pos hm]))
  clear hr0 hc0 hm
  refine callsIn_of_wp Try.func129 rfl trivial ?_ rfl
  simp only [Try.ntmps129, List.size_toArray, List.length_cons, List.length_nil, Nat.reduceAdd, Nat.reduceSub, Array.replicate_succ, Array.replicate_zero, List.push_toArray, List.append_toArray, List.nil_append, List.cons_append]
  gi_wp2_with (gi_at_call 51; refine (callsIn_wide.2 HC.out).mono ?_; rintro e w1 ⟨v, rfl, ho, hb⟩; have HO := Aside0.mk ho; have HB := Aside0.mk hb; obtain ⟨A1, c1, rfl⟩ := Kd.R_slice ho; clear ho hb)
  go_ret
  refine ⟨w1.heap.size, .slice A1 l0.length c1, rfl, ⟨⟨HB.out.size, by simp⟩, by simp, ?_, ?_⟩, below_then HB.out HB.out.size (below_alloc (Below.refl _ _) _)⟩
  · simpa using blk_new w1 (.cells #[.slice A1 l0.length c1] 23)
  · refine Kd.R_mono (Kd.R_bound (Kd.R_below HO.out (below_alloc (Below.refl _ _) _))) (fun k hk => ⟨hk.2.1, hk.2.2.1⟩)
theorem all_stops (n : Nat) (hn : 1 ≤ n) (n0 Bn : Nat) (v : Value) (l : List S86) (k : Nat) (hck : span_Check.f k l = some 0) (hN : (placesAt 0 l).length ≤ 4611686018427387904) (w : World) (hS : HoldsSp n0 w.heap.size Bn v l w) :
    SeqStopsK Fence.wide n Try.prog 150 #[.pointer (some ⟨Bn, 0, none⟩)] (fun x : Int × Int => #[Value.int .i64 x.1, .int .i64 x.2]) (KeepR n0 w.heap.size) (fun ys => ys = numd (placesAt 0 l)) (fun pre => pre <+: numd (placesAt 0 l)) (placesAt 0 l).length w := fun L J Jx W hW hJ _ hY h0 =>
  all1_in n hn L n0 w.heap.size Bn v l k hck hN J Jx (fun s A B hs hg => hJ s A B none hs hg (fun r e => by cases e)) hY W (hS.keep (KeepR.of_below hW (Nat.le_refl _))) h0
end Go.Proofs.Ytfbjjbbhnmoolaa.P
namespace Go.Proofs.Ytfbjjbbhnmoolaa.P
open Go.RowKit Go.Proofs.YtfbjjbbhnmoolaaW.PrintWords Go.Proofs.YtfbjjbbhnmoolaaW.PrintLast Go.Proofs.YtfbjjbbhnmoolaaW.PrintMore
attribute [local go_sem] max2_int min2_int max_two min_two max_three min_three max_four min_four
def inI (k : IntKind) (n : Int) : Prop := (Lit.int k n).wf = true
theorem inI_i64 {n : Int} (h : inI .i64 n) : -9223372036854775808 ≤ n ∧ n ≤ 9223372036854775807 := by
 have h2 : (Lit.int .i64 n).wf = true := h
 have e : IntKind.i64.min = -9223372036854775808 := by decide
 simp [Lit.wf, e] at h2
 exact h2
theorem inI_u64 {n : Int} (h : inI .u64 n) : 0 ≤ n ∧ n ≤ 18446744073709551615 := by
 have h2 : (Lit.int .u64 n).wf = true := h
 have e : IntKind.u64.min = 0 := by decide
 simp [Lit.wf, e] at h2
 exact h2
def Opens {α : Type} (P : Program) (t : TypeId) (d : Kd α) (wf : α → Prop) : Prop := ∀ {H : Type} (enc : TypeId × Value → H) (w : World) (base : Nat) (sp : Nat → Bool) (held : Bool) (fuel : Nat) (cs : List Value) (x : DataW H × List MemPlace),
 DataW.trod enc P w base sp held fuel t cs = some x → ∃ y, d.K w y cs ∧ wf y
theorem opens_int {P : Program} {t : TypeId} {k : IntKind} (ht : P.underlying t = some (.int k)) : Opens P t (Kd.int k) (inI k) := by
 intro H enc w base sp held fuel cs x h
 obtain ⟨n, rfl, _, hw⟩ := DataW.trod_int ht h
 exact ⟨n, rfl, hw⟩
theorem opens_slice {α : Type} {P : Program} {t e : TypeId} {d : Kd α} {wf : α → Prop} (ht : P.underlying t = some (.slice e)) (hs : P.cellsOf e = d.sz) (ho : Opens P e d wf) : Opens P t (Kd.slice e d) (fun xs => ∀ x ∈ xs, wf x) := by
 intro H enc w base sp held fuel cs x h
 rcases Deep.open_slice ht h with ⟨rfl, _⟩ | ⟨a, len, cap, m, n, D, Pl, rfl, hb, hl, hm, hmm, _, hx⟩
 ·exact ⟨[], ⟨none, 0, rfl, Nat.le_refl _, Kd.C_nil _ _⟩, fun x hx => by cases hx⟩
 ·have hlm : len ≤ m := by rw [hmm]; split <;> omega
  unfold maxLen at hm
  rw [hs] at hx
  have each : ∀ i, i < len → ∃ y : α, (∃ cs', cs'.length = d.sz ∧ d.K w y cs' ∧ ∀ j u, cs'[j]? = some u → w.cell? (a.add (i * d.sz + j)) = some u) ∧ wf y := by
   intro i hi
   obtain ⟨cs', h1, h2⟩ := hx i (by omega)
   obtain ⟨y, hk, hw⟩ := ho _ _ _ _ _ _ _ _ h2
   obtain ⟨_, hlen, hcell⟩ := World.cells?_some h1
   refine ⟨y, ⟨cs', hlen, hk, fun j u hu => ?_⟩, hw⟩
   have hj : j < cs'.length := (List.getElem?_eq_some_iff.1 hu).1
   have := hcell j (by omega)
   rw [Deep.add_add] at this
   rw [this]; exact hu
  by_cases h0 : len = 0
  ·subst h0
   exact ⟨[], ⟨some a, cap, rfl, Nat.zero_le _, ⟨rfl, by simp, fun h => absurd h (Nat.lt_irrefl 0)⟩⟩, fun x hx => by cases hx⟩
  ·obtain ⟨y0, _⟩ := each 0 (by omega)
   have : Inhabited α := ⟨y0⟩
   obtain ⟨f, hf⟩ := Deep.choose_lt each
   refine ⟨(List.range len).map f, ⟨some a, cap, by simp, by simpa using hl, ⟨by simp, by simp; omega, fun _ => ⟨a, rfl, fun j p hj => ?_⟩⟩⟩, fun x hx => ?_⟩
   ·rw [List.getElem?_map] at hj
    obtain ⟨i, hi, rfl⟩ := Option.map_eq_some_iff.1 hj
    obtain ⟨hlt, rfl⟩ := List.getElem?_eq_some_iff.1 hi
    simp only [List.length_range] at hlt
    simp only [List.getElem_range]
    obtain ⟨cs', h1, h2, h3⟩ := (hf j hlt).1
    exact ⟨cs', h1, h2, h3⟩
   ·obtain ⟨i, hi, rfl⟩ := List.mem_map.1 hx
    exact (hf i (List.mem_range.1 hi)).2
def wf86 (x : S86) : Prop := (inI .i64) x.f0 ∧ (inI .i64) x.f1
set_option maxRecDepth 100000 in
theorem opens86 : Opens Try.prog 86 k86 wf86 := by
 intro H enc w base sp held fuel cs x h
 obtain ⟨xs, n, rfl, _, hl, hxl, hf⟩ := DataW.trod_struct Try.underlying86 h
 have hc : cs.length = 2 := hl.trans (by kernel_rfl)
 match cs, hc with
 | [c0, c1], _ =>
  have g0 : DataW.trod enc Try.prog w base sp held n 3 ((([c0, c1] : List Value).drop 0).take (Try.prog.cellsOf 3)) = xs[0]? := hf 0 _ rfl
  rw [show Try.prog.cellsOf 3 = 1 from by kernel_rfl] at g0
  have e0 : xs[0]? = some (xs[0]'(by rw [hxl]; decide)) := List.getElem?_eq_getElem _
  have g1 : DataW.trod enc Try.prog w base sp held n 3 ((([c0, c1] : List Value).drop 1).take (Try.prog.cellsOf 3)) = xs[1]? := hf 1 _ rfl
  rw [show Try.prog.cellsOf 3 = 1 from by kernel_rfl] at g1
  have e1 : xs[1]? = some (xs[1]'(by rw [hxl]; decide)) := List.getElem?_eq_getElem _
  obtain ⟨y0, hk0, hw0⟩ := (opens_int Try.underlying3) enc w base sp held n [c0] _ (g0.trans e0)
  injection (show [c0] = [Value.int .i64 y0] from hk0) with he0 _
  subst he0
  obtain ⟨y1, hk1, hw1⟩ := (opens_int Try.underlying3) enc w base sp held n [c1] _ (g1.trans e1)
  injection (show [c1] = [Value.int .i64 y1] from hk1) with he1 _
  subst he1
  exact ⟨⟨y0, y1⟩, k86_mk w ⟨y0, y1⟩ , ⟨hw0, hw1⟩⟩
def wf26 (x : S26) : Prop := (inI .i64) x.f0 ∧ (inI .u64) x.f1 ∧ (inI .u64) x.f2 ∧ (inI .u64) x.f3 ∧ (inI .u64) x.f4 ∧ (fun xs_ => ∀ x_ ∈ xs_, wf86 x_) x.f5 ∧ (fun xs_ => ∀ x_ ∈ xs_, wf86 x_) x.f6 ∧ (fun xs_ => ∀ x_ ∈ xs_, (inI .i64) x_) x.f7 ∧ (fun xs_ => ∀ x_ ∈ xs_, (inI .i64) x_) x.f8
set_option maxRecDepth 100000 in
theorem opens26 : Opens Try.prog 26 k26 wf26 := by
 intro H enc w base sp held fuel cs x h
 obtain ⟨xs, n, rfl, _, hl, hxl, hf⟩ := DataW.trod_struct Try.underlying26 h
 have hc : cs.length = 9 := hl.trans (by kernel_rfl)
 match cs, hc with
 | [c0, c1, c2, c3, c4, c5, c6, c7, c8], _ =>
  have g0 : DataW.trod enc Try.prog w base sp held n 3 ((([c0, c1, c2, c3, c4, c5, c6, c7, c8] : List Value).drop 0).take (Try.prog.cellsOf 3)) = xs[0]? := hf 0 _ rfl
  rw [show Try.prog.cellsOf 3 = 1 from by kernel_rfl] at g0
  have e0 : xs[0]? = some (xs[0]'(by rw [hxl]; decide)) := List.getElem?_eq_getElem _
  have g1 : DataW.trod enc Try.prog w base sp held n 22 ((([c0, c1, c2, c3, c4, c5, c6, c7, c8] : List Value).drop 1).take (Try.prog.cellsOf 22)) = xs[1]? := hf 1 _ rfl
  rw [show Try.prog.cellsOf 22 = 1 from by kernel_rfl] at g1
  have e1 : xs[1]? = some (xs[1]'(by rw [hxl]; decide)) := List.getElem?_eq_getElem _
  have g2 : DataW.trod enc Try.prog w base sp held n 22 ((([c0, c1, c2, c3, c4, c5, c6, c7, c8] : List Value).drop 2).take (Try.prog.cellsOf 22)) = xs[2]? := hf 2 _ rfl
  rw [show Try.prog.cellsOf 22 = 1 from by kernel_rfl] at g2
  have e2 : xs[2]? = some (xs[2]'(by rw [hxl]; decide)) := List.getElem?_eq_getElem _
  have g3 : DataW.trod enc Try.prog w base sp held n 22 ((([c0, c1, c2, c3, c4, c5, c6, c7, c8] : List Value).drop 3).take (Try.prog.cellsOf 22)) = xs[3]? := hf 3 _ rfl
  rw [show Try.prog.cellsOf 22 = 1 from by kernel_rfl] at g3
  have e3 : xs[3]? = some (xs[3]'(by rw [hxl]; decide)) := List.getElem?_eq_getElem _
  have g4 : DataW.trod enc Try.prog w base sp held n 22 ((([c0, c1, c2, c3, c4, c5, c6, c7, c8] : List Value).drop 4).take (Try.prog.cellsOf 22)) = xs[4]? := hf 4 _ rfl
  rw [show Try.prog.cellsOf 22 = 1 from by kernel_rfl] at g4
  have e4 : xs[4]? = some (xs[4]'(by rw [hxl]; decide)) := List.getElem?_eq_getElem _
  have g5 : DataW.trod enc Try.prog w base sp held n 23 ((([c0, c1, c2, c3, c4, c5, c6, c7, c8] : List Value).drop 5).take (Try.prog.cellsOf 23)) = xs[5]? := hf 5 _ rfl
  rw [show Try.prog.cellsOf 23 = 1 from by kernel_rfl] at g5
  have e5 : xs[5]? = some (xs[5]'(by rw [hxl]; decide)) := List.getElem?_eq_getElem _
  have g6 : DataW.trod enc Try.prog w base sp held n 23 ((([c0, c1, c2, c3, c4, c5, c6, c7, c8] : List Value).drop 6).take (Try.prog.cellsOf 23)) = xs[6]? := hf 6 _ rfl
  rw [show Try.prog.cellsOf 23 = 1 from by kernel_rfl] at g6
  have e6 : xs[6]? = some (xs[6]'(by rw [hxl]; decide)) := List.getElem?_eq_getElem _
  have g7 : DataW.trod enc Try.prog w base sp held n 24 ((([c0, c1, c2, c3, c4, c5, c6, c7, c8] : List Value).drop 7).take (Try.prog.cellsOf 24)) = xs[7]? := hf 7 _ rfl
  rw [show Try.prog.cellsOf 24 = 1 from by kernel_rfl] at g7
  have e7 : xs[7]? = some (xs[7]'(by rw [hxl]; decide)) := List.getElem?_eq_getElem _
  have g8 : DataW.trod enc Try.prog w base sp held n 24 ((([c0, c1, c2, c3, c4, c5, c6, c7, c8] : List Value).drop 8).take (Try.prog.cellsOf 24)) = xs[8]? := hf 8 _ rfl
  rw [show Try.prog.cellsOf 24 = 1 from by kernel_rfl] at g8
  have e8 : xs[8]? = some (xs[8]'(by rw [hxl]; decide)) := List.getElem?_eq_getElem _
  obtain ⟨y0, hk0, hw0⟩ := (opens_int Try.underlying3) enc w base sp held n [c0] _ (g0.trans e0)
  injection (show [c0] = [Value.int .i64 y0] from hk0) with he0 _
  subst he0
  obtain ⟨y1, hk1, hw1⟩ := (opens_int Try.underlying22) enc w base sp held n [c1] _ (g1.trans e1)
  injection (show [c1] = [Value.int .u64 y1] from hk1) with he1 _
  subst he1
  obtain ⟨y2, hk2, hw2⟩ := (opens_int Try.underlying22) enc w base sp held n [c2] _ (g2.trans e2)
  injection (show [c2] = [Value.int .u64 y2] from hk2) with he2 _
  subst he2
  obtain ⟨y3, hk3, hw3⟩ := (opens_int Try.underlying22) enc w base sp held n [c3] _ (g3.trans e3)
  injection (show [c3] = [Value.int .u64 y3] from hk3) with he3 _
  subst he3
  obtain ⟨y4, hk4, hw4⟩ := (opens_int Try.underlying22) enc w base sp held n [c4] _ (g4.trans e4)
  injection (show [c4] = [Value.int .u64 y4] from hk4) with he4 _
  subst he4
  obtain ⟨y5, hk5, hw5⟩ := (opens_slice (d := k86) Try.underlying23 (by kernel_rfl) opens86) enc w base sp held n [c5] _ (g5.trans e5)
  obtain ⟨A5, d5, he5, hl5, hC5⟩ := hk5
  injection he5 with he5 _
  subst he5
  obtain ⟨y6, hk6, hw6⟩ := (opens_slice (d := k86) Try.underlying23 (by kernel_rfl) opens86) enc w base sp held n [c6] _ (g6.trans e6)
  obtain ⟨A6, d6, he6, hl6, hC6⟩ := hk6
  injection he6 with he6 _
  subst he6
  obtain ⟨y7, hk7, hw7⟩ := (opens_slice (d := (Kd.int .i64)) Try.underlying24 (by kernel_rfl) (opens_int Try.underlying2)) enc w base sp held n [c7] _ (g7.trans e7)
  obtain ⟨A7, d7, he7, hl7, hC7⟩ := hk7
  injection he7 with he7 _
  subst he7
  obtain ⟨y8, hk8, hw8⟩ := (opens_slice (d := (Kd.int .i64)) Try.underlying24 (by kernel_rfl) (opens_int Try.underlying2)) enc w base sp held n [c8] _ (g8.trans e8)
  obtain ⟨A8, d8, he8, hl8, hC8⟩ := hk8
  injection he8 with he8 _
  subst he8
  exact ⟨⟨y0, y1, y2, y3, y4, y5, y6, y7, y8⟩, k26_mk w ⟨y0, y1, y2, y3, y4, y5, y6, y7, y8⟩ hl5 hC5 hl6 hC6 hl7 hC7 hl8 hC8, ⟨hw0, hw1, hw2, hw3, hw4, hw5, hw6, hw7, hw8⟩⟩
end Go.Proofs.Ytfbjjbbhnmoolaa.P
namespace Go.Proofs.Ytfbjjbbhnmoolaa.P
open Go.RowKit Go.Proofs.YtfbjjbbhnmoolaaW.PrintWords Go.Proofs.YtfbjjbbhnmoolaaW.PrintLast Go.Proofs.YtfbjjbbhnmoolaaW.PrintMore
theorem wrap_id {x : Int} (h0 : -9223372036854775808 ≤ x) (h1 : x ≤ 9223372036854775807) : wrap64 x = x := by unfold wrap64; omega
theorem wrap_succ {i : Nat} (h : i < 9223372036854775807) : wrap64 ((i : Int) + 1) = ((i + 1 : Nat) : Int) := by unfold wrap64; omega
theorem wrap_range (x : Int) : -9223372036854775808 ≤ wrap64 x ∧ wrap64 x ≤ 9223372036854775807 := by unfold wrap64; omega
theorem rd_at {l : List Int} {i : Nat} (h : i < l.length) : rd l (i : Int) = l[i] := by unfold rd; simp [List.getD, h]
theorem drop_at {α : Type} {l : List α} {i : Nat} (h : i < l.length) : l.drop i = l[i] :: l.drop (i + 1) := List.drop_eq_getElem_cons h
theorem take_at {α : Type} {l : List α} {i : Nat} (h : i < l.length) : l.take (i + 1) = l.take i ++ [l[i]] := List.take_succ_eq_append_getElem h
theorem drop_end {α : Type} {l : List α} {i : Nat} (h : l.length ≤ i) : l.drop i = [] := List.drop_eq_nil_of_le h
def i64 (x : Int) : Prop := -9223372036854775808 ≤ x ∧ x ≤ 9223372036854775807
instance (x : Int) : Decidable (i64 x) := by unfold i64; exact inferInstance
def u64 (x : Int) : Prop := 0 ≤ x ∧ x ≤ 18446744073709551615
instance (x : Int) : Decidable (u64 x) := by unfold u64; exact inferInstance
theorem i64_of {x : Int} (h : inI .i64 x) : i64 x := inI_i64 h
theorem u64_of {x : Int} (h : inI .u64 x) : u64 x := inI_u64 h
theorem i64_all {l : List Int} (h : ∀ x ∈ l, inI .i64 x) : ∀ x ∈ l, i64 x := fun x hx => i64_of (h x hx)
theorem wrap_i64 (x : Int) : i64 (wrap64 x) := wrap_range x
theorem wrap_of_i64 {x : Int} (h : i64 x) : wrap64 x = x := wrap_id h.1 h.2
end Go.Proofs.Ytfbjjbbhnmoolaa.P
namespace Go.Proofs.Ytfbjjbbhnmoolaa.P
open Go.RowKit Go.Shelf Go.Proofs.YtfbjjbbhnmoolaaW.PrintWords Go.Proofs.YtfbjjbbhnmoolaaW.PrintLast Go.Proofs.YtfbjjbbhnmoolaaW.PrintMore
attribute [local go_sem] Oper.semAt_some
def span_Places.f (k : Nat) (l0 : List S86) : Option (List Int × Int) :=
  (span_Check.f k l0).bind fun e => if e = 0 then (if l0.length < 8796093022208 ∧ (placesAt 0 l0).length < 17592186044416 then some (placesAt 0 l0, 0) else none) else some ([], e)
theorem numd_map (ps : List Int) : (numd ps).map (fun x => Value.int .i64 x.2) = encs (Value.int .i64) ps := by
  unfold numd encs
  rw [List.map_map]
  have : ∀ (ps : List Int) (i : Nat), (ps.zipIdx i).map ((fun x : Int × Int => Value.int .i64 x.2) ∘ fun p : Int × Nat => (((p.2 : Nat) : Int), p.1)) = ps.map (Value.int .i64) := by
    intro ps
    induction ps with
    | nil => intro i; rfl
    | cons p ps ih => intro i; simp only [List.zipIdx_cons, List.map_cons, ih, Function.comp]
  exact this ps 0
theorem keepR_appended {n0 n1 B : Nat} {W w1 : World} {e : TypeId} {size k : Nat} {v v' : Value} {xs : List Value} {tmp : Obj} (hB : B < n0) (hn : n1 ≤ W.heap.size)
    (hrow : W.ownsRow n1 e size v k xs) (hgrow : (W.alloc tmp).grownBy w1 v.ownBlock) : KeepR n0 n1 W (w1.setCell ⟨B, 0, none⟩ v') := by
  have hs := hgrow.size
  simp at hs
  refine ⟨by simp [World.setCell]; omega, fun q h0 h1 => ?_⟩
  rw [Below.heap_setCell w1 ⟨B, 0, none⟩ v' q (by show q ≠ B; omega), hgrow.block q (by simp; omega) (fun e' => ?_), Below.heap_alloc W tmp q (by omega)]
  have := own_base hrow q e'.symm
  omega
set_option maxRecDepth 100000 in
set_option maxHeartbeats 4000000 in
theorem span_Places.calls (k : Nat) (A0 : Option Addr) (c0 : Nat) (l0 : List S86) (r1 : List Int) (r2 : Int) (w : World) (hr0 : Kd.C k86 w A0 l0.length l0) (hc0 : l0.length ≤ c0) (h : span_Places.f k l0 = some (r1, r2)) :
    Calls Try.prog 152 #[.slice A0 l0.length c0] w fun e w' => ∃ v0_ : Value, e = .returned (.tuple #[v0_, .int .i64 r2]) ∧ Kd.R (Kd.int .i64) 3 w' w.heap.size (fun _ => True) v0_ r1 ∧ Below w.heap.size w w' := by
  obtain ⟨e0, hck, h2⟩ := Option.bind_eq_some_iff.1 h
  clear h
  have HCk := Aside0.mk (span_Check.calls k A0 c0 l0 e0 w hr0 hc0 hck)
  by_cases he : e0 = 0
  · subst he
    rw [if_pos rfl] at h2
    obtain ⟨hm, h3⟩ := of_ite_some h2
    injection h3 with h4 h5
    subst h4; subst h5
    clear h2
    refine (callsIn_wide (n := 5)).1 ?_
    have hf0 : Fence.wide.fn 104 := trivial
    have hf1 : Fence.wide.fn 129 := trivial
    have HR := Aside0.mk hr0
    have HM := Aside0.mk hm
    obtain ⟨i0, hi, hz0, hz1, hz2⟩ := info_parts info3
    clear hr0 hm
    refine callsIn_of_wp_marks Try.func152 rfl trivial ?_ rfl
    simp only [Try.ntmps152, List.size_toArray, List.length_cons, List.length_nil, Nat.reduceAdd, Nat.reduceSub, Array.replicate_succ, Array.replicate_zero, List.push_toArray, List.append_toArray, List.nil_append, List.cons_append]
    gi_wp2_with (first | (gi_at_call 104; refine (callsIn_wide.2 HCk.out).mono ?_; rintro e w1 ⟨rfl, hb⟩; have HB := Aside0.mk hb; clear hb HCk) | (gi_at_call 129; refine (all_in _ (by omega) A0 c0 l0 _ (Kd.C_below (Kd.C_below HR.out HB.out) (below_alloc (Below.refl _ _) _)) hc0 HM.out.1).mono ?_; rintro e w2 ⟨Bn, v, rfl, hS, hb2⟩; have HS := Aside0.mk hS; have HB2 := Aside0.mk hb2; clear hS hb2))
    have hsz : w1.heap.size + 1 ≤ w2.heap.size := by have := HB2.out.size; simpa using this
    have hB2 : w2.heap[w1.heap.size]? = some (.cells #[.slice none 0 0] 47 (0, 0)) := (HB2.out.block _ (by simp)).trans (by simpa using blk_new w1 (.cells #[.slice none 0 0] 47))
    have hBW : Below w.heap.size w w2 := below_then (below_then HB.out HB.out.size (below_alloc (Below.refl _ _) _)) (by have := HB.out.size; simp; omega) HB2.out
    have hS2 : HoldsSp (w1.heap.size + 1) w2.heap.size Bn v l0 w2 := by simpa using HS.out
    refine wpIn_rangeFunc_ownG rfl (by omega) (gf := 150) (lb := #[.pointer (some ⟨Bn, 0, none⟩)]) rfl trivial (enters_of Try.func150 (by kernel_rfl) rfl)
      (all_stops _ (by omega) (w1.heap.size + 1) Bn v l0 k hck (by have := HM.out.2; omega) w2 hS2) KeepR.trans (KeepR.put (Nat.le_refl _)) (Below.refl _ _) (fun _ => rfl)
      (fun pre W => (∃ v, Boxed W w1.heap.size 47 v ∧ W.ownsRow w2.heap.size 3 1 v pre.length (pre.map fun x => Value.int .i64 x.2) ∧ True) ∧ (Below w.heap.size w W ∧ w2.heap.size ≤ W.heap.size))
      (fun _ _ _ => False)
      (OwnFrom.and (Own.from (holdsRow_own w2.heap.size w1.heap.size 47 3 1 (fun pre : List (Int × Int) => pre.length) (fun pre => pre.map fun x => Value.int .i64 x.2) (fun pre v => True)) _) (OwnFrom.and (ownFrom_below (Nat.le_refl _) (by have := HB.out.size; omega)) (fun s A B row hs hg hr => Nat.le_trans hs hg.size)))
      (fun _ _ _ _ _ hs _ _ => hs)
      ⟨⟨_, hB2, World.ownsRow_nil _ _ _ _, trivial⟩, hBW, Nat.le_refl _⟩
      (fun x => { tmps := #[.slice A0 l0.length c0, undef, .slice none 0 0, .int .i64 0, .int .i64 0, .pointer (some ⟨w1.heap.size, 0, none⟩), undef, .int .i64 x.2, .slice A0 l0.length c0, .int .i64 0, .int .i64 0, .bool false, undef, .slice A0 l0.length c0, .func (.func 150) #[] #[.pointer (some ⟨Bn, 0, none⟩)], .int .i64 x.1, .int .i64 x.2, undef, undef, undef, undef, undef], defers := [] }) ?assign ?body ?done ?stop
    case assign =>
      intro l x W K hK
      gi_wp2
      exact hK
    case body =>
      rintro l pre x W ⟨⟨v, hv, hrow, _⟩, hB, hW2⟩ hlt
      have hc := hv.cell
      have hL := HM.out.2
      gi_wp2_with (gi_at_builtin; refine wpListIn_append_own _ rfl _ _ 47 rfl w2.heap.size 3 i0 (.int .i64 0) 1 8 Try.underlying47 hi hz0 hz1 hz2 rfl (by decide) _ _ _ rfl (hrow.alloc _) ⟨W.heap.size, 0, none⟩ 1 1 [.int .i64 x.2] rfl rfl (cell_one_new _ _ _) (by simp [Value.oneCell']) (by unfold maxLen; omega) (by omega) (by simp; omega) ?_; intro v' w3 hown' hgrow _; obtain ⟨g', cap', rfl⟩ := ownsRow_succ hown'; have hkr := keepR_appended (v' := .slice (some ⟨g', 0, none⟩) (pre.length + 1) cap') (B := w1.heap.size) (n0 := w1.heap.size + 1) (Nat.lt_succ_self _) hW2 hrow hgrow; obtain ⟨hv1, hv2, hr2, hk2, hb2⟩ := hv.appended (n₀ := w1.heap.size) (by decide) (own_weaken hrow (by omega)) (by omega) (Nat.le_refl _) (own_weaken hown' (by omega)) hgrow; have hr3 := hown'.kept (grownBy_setCell' w3 w1.heap.size (.slice (some ⟨g', 0, none⟩) (pre.length + 1) cap')) (.inr (hv1.not_row (by decide) hown').symm); have hc1 := hv1.cell; have hf1 := hv1.frozen)
      exact ⟨hk2.from _, hkr, ⟨⟨_, hv2, by simpa using hr3, trivial⟩, hB.trans (hb2.mono HB.out.size), Nat.le_trans hW2 hkr.1⟩⟩
    case done =>
      rintro D ys W hD rfl ⟨⟨v, hv, hrow, _⟩, hB, hW2⟩ hK
      have hc := hv.cell
      gi_wp2
      refine ⟨by simp, .inl ⟨_, _, rfl, run_takeDeferred hK, ?_⟩⟩
      have hr2 := ownsRow_putObj hrow (.deferred none) hK rfl
      refine ⟨_, results_tmp2 rfl _ _ _, v, rfl, ?_, hB.trans (belowK_b (w := w2) (by have := HB.out.size; omega) W D _ _ hD hK rfl rfl)⟩
      rw [numd_length, numd_map] at hr2
      exact Kd.R_lower (Kd.R_of_own (enc := Value.int .i64) (h1 := fun _ => rfl) hr2 (fun _ _ => trivial)) (by have := HB.out.size; omega)
    case stop =>
      rintro D c pre W _ _ h _
      exact h.elim
  · rw [if_neg he] at h2
    have h3 := Option.some.inj h2
    injection h3 with h4 h5
    subst h4; subst h5
    clear h2
    have he1 : (e0 == 0) = false := beq_eq_false_iff_ne.2 he
    have he2 : (e0 != 0) = true := bne_iff_ne.2 he
    go_enter Try.func152, Try.ntmps152
    go_wp2_with (go_at_call 104; refine HCk.out.mono ?_; rintro e w1 ⟨rfl, hb⟩; have HB := Aside0.mk hb; clear hb)
    go_ret2
    exact ⟨_, rfl, Kd.R_nil _ _ _ _ _, HB.out⟩
end Go.Proofs.Ytfbjjbbhnmoolaa.P
namespace Go.Proofs.Ytfbjjbbhnmoolaa.P
open Go.RowKit Go.Proofs.YtfbjjbbhnmoolaaW.PrintWords Go.Proofs.YtfbjjbbhnmoolaaW.PrintLast Go.Proofs.YtfbjjbbhnmoolaaW.PrintMore
attribute [local go_sem] max2_int min2_int max_two min_two max_three min_three max_four min_four
mutual
def tidepoleref06_Check.l0 : Nat → List (S117) → Int → Int → Int → Option (Int)
 | 0, _, _, _, _ => none
 | k + 1, x0, x3, x4, x5 => if x5 < (x0.length : Int) then (if 0 ≤ x5 then (if ((rd_T117 x0 x5).f0) < (-1048576) then (tidepoleref06_Check.j1 k x0 x3 x4 x5 true ((rd_T117 x0 x5).f0) ((rd_T117 x0 x5).f1)) else (if ((rd_T117 x0 x5).f0) > 2097152 then (tidepoleref06_Check.j1 k x0 x3 x4 x5 true ((rd_T117 x0 x5).f0) ((rd_T117 x0 x5).f1)) else (if x5 = 0 then (if ((rd_T117 x0 x5).f0) > 1048576 then (tidepoleref06_Check.j1 k x0 x3 x4 x5 true ((rd_T117 x0 x5).f0) ((rd_T117 x0 x5).f1)) else (if x5 > 0 then (if ((rd_T117 x0 x5).f0) < 0 then (tidepoleref06_Check.j1 k x0 x3 x4 x5 true ((rd_T117 x0 x5).f0) ((rd_T117 x0 x5).f1)) else (if ((rd_T117 x0 x5).f1) < 0 then (tidepoleref06_Check.j1 k x0 x3 x4 x5 true ((rd_T117 x0 x5).f0) ((rd_T117 x0 x5).f1)) else (tidepoleref06_Check.j1 k x0 x3 x4 x5 (decide (((rd_T117 x0 x5).f1) > 4096)) ((rd_T117 x0 x5).f0) ((rd_T117 x0 x5).f1)))) else (if ((rd_T117 x0 x5).f1) < 0 then (tidepoleref06_Check.j1 k x0 x3 x4 x5 true ((rd_T117 x0 x5).f0) ((rd_T117 x0 x5).f1)) else (tidepoleref06_Check.j1 k x0 x3 x4 x5 (decide (((rd_T117 x0 x5).f1) > 4096)) ((rd_T117 x0 x5).f0) ((rd_T117 x0 x5).f1))))) else (if x5 > 0 then (if ((rd_T117 x0 x5).f0) < 0 then (tidepoleref06_Check.j1 k x0 x3 x4 x5 true ((rd_T117 x0 x5).f0) ((rd_T117 x0 x5).f1)) else (if ((rd_T117 x0 x5).f1) < 0 then (tidepoleref06_Check.j1 k x0 x3 x4 x5 true ((rd_T117 x0 x5).f0) ((rd_T117 x0 x5).f1)) else (tidepoleref06_Check.j1 k x0 x3 x4 x5 (decide (((rd_T117 x0 x5).f1) > 4096)) ((rd_T117 x0 x5).f0) ((rd_T117 x0 x5).f1)))) else (if ((rd_T117 x0 x5).f1) < 0 then (tidepoleref06_Check.j1 k x0 x3 x4 x5 true ((rd_T117 x0 x5).f0) ((rd_T117 x0 x5).f1)) else (tidepoleref06_Check.j1 k x0 x3 x4 x5 (decide (((rd_T117 x0 x5).f1) > 4096)) ((rd_T117 x0 x5).f0) ((rd_T117 x0 x5).f1))))))) else (none)) else (some 0)
def tidepoleref06_Check.j1 : Nat → List (S117) → Int → Int → Int → Bool → Int → Int → Option (Int)
 | 0, _, _, _, _, _, _, _ => none
 | k + 1, x0, x3, x4, x5, x56, x103000, x103001 => if x56 = true then (some 20) else (if (wrap64 (x3 + x103000)) < (-1048576) then (tidepoleref06_Check.j2 k x0 (wrap64 (x3 + x103000)) x4 x5 true x103000 x103001) else (tidepoleref06_Check.j2 k x0 (wrap64 (x3 + x103000)) x4 x5 (decide ((wrap64 (x3 + x103000)) > 1048576)) x103000 x103001))
def tidepoleref06_Check.j2 : Nat → List (S117) → Int → Int → Int → Bool → Int → Int → Option (Int)
 | 0, _, _, _, _, _, _, _ => none
 | k + 1, x0, x3, x4, x5, x66, x103000, x103001 => if x66 = true then (some 20) else (tidepoleref06_Check.l1 k x0 x3 x4 x5 0 x103000 x103001)
def tidepoleref06_Check.l1 : Nat → List (S117) → Int → Int → Int → Int → Int → Int → Option (Int)
 | 0, _, _, _, _, _, _, _ => none
 | k + 1, x0, x3, x4, x5, x7, x103000, x103001 => if x7 < x103001 then (if x3 > 1048576 then (some 20) else (tidepoleref06_Check.l1 k x0 (wrap64 (x3 + 1)) (wrap64 (x4 + 1)) x5 (wrap64 (x7 + 1)) x103000 x103001)) else (if x4 > 4096 then (some 20) else (tidepoleref06_Check.l0 k x0 x3 x4 (wrap64 (x5 + 1))))
end
def tidepoleref06_Check.f (k : Nat) (l0 : List (S117)) : Option (Int) := if (l0.length : Int) > 1024 then (some 12) else (tidepoleref06_Check.l0 k l0 0 0 0)
set_option maxHeartbeats 8000000 in
set_option maxRecDepth 100000 in
theorem tidepoleref06_Check.calls (k : Nat) (A0 : Option Addr) (c0 : Nat) (l0 : List (S117)) (r : Int) (w : World) (hr0 : Kd.C k117 w A0 l0.length l0) (hc0 : l0.length ≤ c0) (h : tidepoleref06_Check.f k l0 = some r) :
  Calls Try.prog 69 #[.slice A0 l0.length c0] w fun e w' => e = .returned (.int .i64 r) ∧ Below w.heap.size w w' := by
 have hu117 := Try.underlying117
 have HR0 := Aside0.mk hr0
 have HC0 := Aside0.mk hc0
 clear hr0 hc0
 have HB := Aside0.mk (Below.refl w.heap.size w)
 have H : (if (l0.length : Int) > 1024 then (some 12) else (tidepoleref06_Check.l0 k l0 0 0 0)) = some r := h
 clear h
 by_cases c2 : (l0.length : Int) > 1024
 ·rw [if_pos c2] at H
  have c2b0 : decide (1024 < (l0.length : Int)) = true := decide_eq_true c2
  have c2b1 : decide (1024 < l0.length) = true := decide_eq_true (by omega)
  clear c2
  obtain rfl := Option.some.inj H
  go_enter Try.func69, Try.ntmps69
  go_wp2
  go_ret
  exact ⟨by first | rfl | (simp [errW_none, errW_some] <;> rfl) | (simp [*, errW_none, errW_some] <;> rfl), by repeat (first | (with_reducible first | exact HB.out | apply below_alloc | apply pw_below_drewN | apply below_drew1) | exact HB.out)⟩
 ·rw [if_neg c2] at H
  have c2b0 : decide (1024 < (l0.length : Int)) = false := decide_eq_false c2
  have c2b1 : decide (1024 < l0.length) = false := decide_eq_false (by omega)
  clear c2
  have H' := Aside0.mk H
  clear H
  go_enter Try.func69, Try.ntmps69
  go_wp2
  go_loopg [3, 4, 5] k (fun kq v3 v4 v5 w' => ∃ (x3_1 : Int) (x4_1 : Int) (x5_1 : Int), v3 = .int .i64 x3_1 ∧ v4 = .int .i64 x4_1 ∧ v5 = .int .i64 x5_1 ∧ Aside0 (tidepoleref06_Check.l0 kq l0 x3_1 x4_1 x5_1 = some r) ∧ Aside0 (kq ≤ k) ∧ Aside0 (Below w.heap.size w w'))
  case atStart => exact ⟨(0), (0), (0), (by first | rfl | (simp; done) | (simp [*]; done)), (by first | rfl | (simp; done) | (simp [*]; done)), (by first | rfl | (simp; done) | (simp [*]; done)), H', ⟨Nat.le_refl _⟩, ⟨by repeat (first | (with_reducible first | exact HB.out | apply below_alloc | apply pw_below_drewN | apply below_drew1) | exact HB.out)⟩⟩
  case round =>
   clear H'
   try clear c2
   try clear c2b0
   try clear c2b1
   try clear p2
   obtain ⟨x3_1, x4_1, x5_1, rfl, rfl, rfl, HA, HK1, HB⟩ := hrel
   cases gk with
   | zero => exact absurd HA.out (by simp [tidepoleref06_Check.l0])
   | succ k1 =>
    have H := HA.out
    clear HA
    simp only [tidepoleref06_Check.l0] at H
    by_cases c3 : x5_1 < (l0.length : Int)
    ·rw [if_pos c3] at H
     have c3b0 : decide (x5_1 < (l0.length : Int)) = true := decide_eq_true c3
     clear c3
     by_cases c4 : 0 ≤ x5_1
     ·rw [if_pos c4] at H
      have c4b0 : decide (0 ≤ x5_1) = true := decide_eq_true c4
      clear c4
      have HC5 := Aside0.mk H
      clear H
      have p101 : 0 ≤ (x5_1 : Int) := of_decide_eq_true (by first | (with_reducible assumption) | assumption)
      have q101 : x5_1 < (l0.length : Int) := of_decide_eq_true (by first | (with_reducible assumption) | assumption)
      obtain ⟨ad101, e101, hx101_0, hx101_1⟩ := at_T117 HR0.out x5_1 p101 q101
      cases e101
      replace hx101_0 := (HB.out.cell (World.block_lt_of_cell? w _ hx101_0)).trans hx101_0
      replace hx101_1 := (HB.out.cell (World.block_lt_of_cell? w _ hx101_1)).trans hx101_1
      replace p101 := eq_true p101
      replace q101 := eq_true q101
      go_upto_region 8 with (first | ((with_reducible refine gate_dst (N := 6) rfl ?_); refine box_event ?hg (N := 6) ?hd (cs := #[.int .i64 0, .int .i64 0]) (t := 117) ?hr ?_; (case hd => rfl); (case hg => rfl); (case hr => first | (go_simp; done) | (go_simp; rfl)); intro gb102 hg w6 hbox hb; have n0_ := Aside0.mk (below_step (by repeat (first | (with_reducible first | exact HB.out | apply below_alloc | apply pw_below_drewN | apply below_drew1) | exact HB.out)) hb); have n1_ := Aside0.mk (hbox); have n2_ := Aside0.mk ((by rw [hg]; exact (below_size (by repeat (first | (with_reducible first | exact HB.out | apply below_alloc | apply pw_below_drewN | apply below_drew1) | exact HB.out))) : w.heap.size ≤ gb102)); have n3_ := Aside0.mk ((by rw [hg]; exact (below_size (by repeat (first | (with_reducible first | exact HB.out | apply below_alloc | apply pw_below_drewN | apply below_drew1) | exact HB.out))) : w.heap.size ≤ gb102)); clear HB; have HB := n0_; have BK102 := n1_; have GW102 := n2_; have GE102 := n3_; clear n0_ n1_ n2_ n3_; clear hb hbox hg; have hcz7_0 : w6.cell? ⟨gb102, 0, none⟩ = some (.int .i64 0) := (blk_cell BK102.out 0).trans rfl; have hcz7_1 : w6.cell? ⟨gb102, 1, none⟩ = some (.int .i64 0) := (blk_cell BK102.out 1).trans rfl; have hfz7_0 := blk_frozen BK102.out 0; have hfz7_1 := blk_frozen BK102.out 1))
      (try simp only [Act.put, List.setIfInBounds_toArray, List.set_cons_zero, List.set_cons_succ])
      go_cut [56] (fun v56 wc => ∃ (kq : Nat) (x56_4 : Bool), v56 = .bool x56_4 ∧ Aside0 (tidepoleref06_Check.j1 kq l0 x3_1 x4_1 x5_1 x56_4 ((rd_T117 l0 x5_1).f0) ((rd_T117 l0 x5_1).f1) = some r) ∧ Aside0 (kq ≤ k1) ∧ Aside0 (wc.heap[gb102]? = some (.cells #[.int .i64 ((rd_T117 l0 x5_1).f0), .int .i64 ((rd_T117 l0 x5_1).f1)] 117 (0, 0))) ∧ Aside0 (Below w.heap.size w wc))
      case first =>
       have H := HC5.out
       clear HC5
       by_cases c8 : ((rd_T117 l0 x5_1).f0) < (-1048576)
       ·rw [if_pos c8] at H
        have c8b0 : decide (((rd_T117 l0 x5_1).f0) < (-1048576)) = true := decide_eq_true c8
        clear c8
        (first | rw [c8b0] | (simp only [i64_w, i32_w]; rw [c8b0]) | skip)
        have H' := Aside0.mk H
        clear H
        have hcz9_0 : w6.cell? ⟨gb102, 0, none⟩ = some (.int .i64 0) := (blk_cell BK102.out 0).trans rfl
        have hcz9_1 : w6.cell? ⟨gb102, 1, none⟩ = some (.int .i64 0) := (blk_cell BK102.out 1).trans rfl
        have hfz9_0 := blk_frozen BK102.out 0
        have hfz9_1 := blk_frozen BK102.out 1
        go_wp2
        go_meet
        case rel => exact ⟨_, (true), (by first | rfl | (simp; done) | (simp [*]; done)), H', ⟨by have := HK1.out; first | omega | exact Nat.le_refl _⟩, ⟨by (with_reducible repeat (first | refine blk_drewN ?_ _ | refine blk_drew ?_ | refine blk_alloc ?_ _)); refine blk_put (cs := #[.int .i64 ((rd_T117 l0 x5_1).f0), .int .i64 0]) ?_ 1 _ rfl; (with_reducible repeat (first | refine blk_drewN ?_ _ | refine blk_drew ?_ | refine blk_alloc ?_ _)); refine blk_put (cs := #[.int .i64 0, .int .i64 0]) ?_ 0 _ rfl; (with_reducible repeat (first | refine blk_drewN ?_ _ | refine blk_drew ?_ | refine blk_alloc ?_ _)); exact BK102.out⟩, ⟨by repeat (first | (with_reducible first | exact HB.out | apply below_alloc | apply pw_below_drewN | apply below_drew1 | refine below_set ?_ GE102.out) | exact HB.out)⟩⟩
       ·rw [if_neg c8] at H
        have c8b0 : decide (((rd_T117 l0 x5_1).f0) < (-1048576)) = false := decide_eq_false c8
        clear c8
        (first | rw [c8b0] | (simp only [i64_w, i32_w]; rw [c8b0]) | skip)
        by_cases c10 : ((rd_T117 l0 x5_1).f0) > 2097152
        ·rw [if_pos c10] at H
         have c10b0 : decide (2097152 < ((rd_T117 l0 x5_1).f0)) = true := decide_eq_true c10
         clear c10
         have H' := Aside0.mk H
         clear H
         have hcz11_0 : w6.cell? ⟨gb102, 0, none⟩ = some (.int .i64 0) := (blk_cell BK102.out 0).trans rfl
         have hcz11_1 : w6.cell? ⟨gb102, 1, none⟩ = some (.int .i64 0) := (blk_cell BK102.out 1).trans rfl
         have hfz11_0 := blk_frozen BK102.out 0
         have hfz11_1 := blk_frozen BK102.out 1
         go_wp2
         go_meet
         case rel => exact ⟨_, (true), (by first | rfl | (simp; done) | (simp [*]; done)), H', ⟨by have := HK1.out; first | omega | exact Nat.le_refl _⟩, ⟨by (with_reducible repeat (first | refine blk_drewN ?_ _ | refine blk_drew ?_ | refine blk_alloc ?_ _)); refine blk_put (cs := #[.int .i64 ((rd_T117 l0 x5_1).f0), .int .i64 0]) ?_ 1 _ rfl; (with_reducible repeat (first | refine blk_drewN ?_ _ | refine blk_drew ?_ | refine blk_alloc ?_ _)); refine blk_put (cs := #[.int .i64 0, .int .i64 0]) ?_ 0 _ rfl; (with_reducible repeat (first | refine blk_drewN ?_ _ | refine blk_drew ?_ | refine blk_alloc ?_ _)); exact BK102.out⟩, ⟨by repeat (first | (with_reducible first | exact HB.out | apply below_alloc | apply pw_below_drewN | apply below_drew1 | refine below_set ?_ GE102.out) | exact HB.out)⟩⟩
        ·rw [if_neg c10] at H
         have c10b0 : decide (2097152 < ((rd_T117 l0 x5_1).f0)) = false := decide_eq_false c10
         clear c10
         by_cases c12 : x5_1 = 0
         ·rw [if_pos c12] at H
          have c12b0 : (x5_1 == 0) = true := beq_iff_eq.mpr c12
          have c12b1 : (x5_1 != 0) = false := bne_eq_false_iff_eq.mpr c12
          clear c12
          by_cases c13 : ((rd_T117 l0 x5_1).f0) > 1048576
          ·rw [if_pos c13] at H
           have c13b0 : decide (1048576 < ((rd_T117 l0 x5_1).f0)) = true := decide_eq_true c13
           clear c13
           have H' := Aside0.mk H
           clear H
           have hcz14_0 : w6.cell? ⟨gb102, 0, none⟩ = some (.int .i64 0) := (blk_cell BK102.out 0).trans rfl
           have hcz14_1 : w6.cell? ⟨gb102, 1, none⟩ = some (.int .i64 0) := (blk_cell BK102.out 1).trans rfl
           have hfz14_0 := blk_frozen BK102.out 0
           have hfz14_1 := blk_frozen BK102.out 1
           go_wp2
           go_meet
           case rel => exact ⟨_, (true), (by first | rfl | (simp; done) | (simp [*]; done)), H', ⟨by have := HK1.out; first | omega | exact Nat.le_refl _⟩, ⟨by (with_reducible repeat (first | refine blk_drewN ?_ _ | refine blk_drew ?_ | refine blk_alloc ?_ _)); refine blk_put (cs := #[.int .i64 ((rd_T117 l0 x5_1).f0), .int .i64 0]) ?_ 1 _ rfl; (with_reducible repeat (first | refine blk_drewN ?_ _ | refine blk_drew ?_ | refine blk_alloc ?_ _)); refine blk_put (cs := #[.int .i64 0, .int .i64 0]) ?_ 0 _ rfl; (with_reducible repeat (first | refine blk_drewN ?_ _ | refine blk_drew ?_ | refine blk_alloc ?_ _)); exact BK102.out⟩, ⟨by repeat (first | (with_reducible first | exact HB.out | apply below_alloc | apply pw_below_drewN | apply below_drew1 | refine below_set ?_ GE102.out) | exact HB.out)⟩⟩
          ·rw [if_neg c13] at H
           have c13b0 : decide (1048576 < ((rd_T117 l0 x5_1).f0)) = false := decide_eq_false c13
           clear c13
           by_cases c15 : x5_1 > 0
           ·rw [if_pos c15] at H
            have c15b0 : decide (0 < x5_1) = true := decide_eq_true c15
            clear c15
            by_cases c16 : ((rd_T117 l0 x5_1).f0) < 0
            ·rw [if_pos c16] at H
             have c16b0 : decide (((rd_T117 l0 x5_1).f0) < 0) = true := decide_eq_true c16
             clear c16
             have H' := Aside0.mk H
             clear H
             have hcz17_0 : w6.cell? ⟨gb102, 0, none⟩ = some (.int .i64 0) := (blk_cell BK102.out 0).trans rfl
             have hcz17_1 : w6.cell? ⟨gb102, 1, none⟩ = some (.int .i64 0) := (blk_cell BK102.out 1).trans rfl
             have hfz17_0 := blk_frozen BK102.out 0
             have hfz17_1 := blk_frozen BK102.out 1
             go_wp2
             go_meet
             case rel => exact ⟨_, (true), (by first | rfl | (simp; done) | (simp [*]; done)), H', ⟨by have := HK1.out; first | omega | exact Nat.le_refl _⟩, ⟨by (with_reducible repeat (first | refine blk_drewN ?_ _ | refine blk_drew ?_ | refine blk_alloc ?_ _)); refine blk_put (cs := #[.int .i64 ((rd_T117 l0 x5_1).f0), .int .i64 0]) ?_ 1 _ rfl; (with_reducible repeat (first | refine blk_drewN ?_ _ | refine blk_drew ?_ | refine blk_alloc ?_ _)); refine blk_put (cs := #[.int .i64 0, .int .i64 0]) ?_ 0 _ rfl; (with_reducible repeat (first | refine blk_drewN ?_ _ | refine blk_drew ?_ | refine blk_alloc ?_ _)); exact BK102.out⟩, ⟨by repeat (first | (with_reducible first | exact HB.out | apply below_alloc | apply pw_below_drewN | apply below_drew1 | refine below_set ?_ GE102.out) | exact HB.out)⟩⟩
            ·rw [if_neg c16] at H
             have c16b0 : decide (((rd_T117 l0 x5_1).f0) < 0) = false := decide_eq_false c16
             clear c16
             by_cases c18 : ((rd_T117 l0 x5_1).f1) < 0
             ·rw [if_pos c18] at H
              have c18b0 : decide (((rd_T117 l0 x5_1).f1) < 0) = true := decide_eq_true c18
              clear c18
              have H' := Aside0.mk H
              clear H
              have hcz19_0 : w6.cell? ⟨gb102, 0, none⟩ = some (.int .i64 0) := (blk_cell BK102.out 0).trans rfl
              have hcz19_1 : w6.cell? ⟨gb102, 1, none⟩ = some (.int .i64 0) := (blk_cell BK102.out 1).trans rfl
              have hfz19_0 := blk_frozen BK102.out 0
              have hfz19_1 := blk_frozen BK102.out 1
              go_wp2
              go_meet
              case rel => exact ⟨_, (true), (by first | rfl | (simp; done) | (simp [*]; done)), H', ⟨by have := HK1.out; first | omega | exact Nat.le_refl _⟩, ⟨by (with_reducible repeat (first | refine blk_drewN ?_ _ | refine blk_drew ?_ | refine blk_alloc ?_ _)); refine blk_put (cs := #[.int .i64 ((rd_T117 l0 x5_1).f0), .int .i64 0]) ?_ 1 _ rfl; (with_reducible repeat (first | refine blk_drewN ?_ _ | refine blk_drew ?_ | refine blk_alloc ?_ _)); refine blk_put (cs := #[.int .i64 0, .int .i64 0]) ?_ 0 _ rfl; (with_reducible repeat (first | refine blk_drewN ?_ _ | refine blk_drew ?_ | refine blk_alloc ?_ _)); exact BK102.out⟩, ⟨by repeat (first | (with_reducible first | exact HB.out | apply below_alloc | apply pw_below_drewN | apply below_drew1 | refine below_set ?_ GE102.out) | exact HB.out)⟩⟩
             ·rw [if_neg c18] at H
              have c18b0 : decide (((rd_T117 l0 x5_1).f1) < 0) = false := decide_eq_false c18
              clear c18
              have H' := Aside0.mk H
              clear H
              have hcz20_0 : w6.cell? ⟨gb102, 0, none⟩ = some (.int .i64 0) := (blk_cell BK102.out 0).trans rfl
              have hcz20_1 : w6.cell? ⟨gb102, 1, none⟩ = some (.int .i64 0) := (blk_cell BK102.out 1).trans rfl
              have hfz20_0 := blk_frozen BK102.out 0
              have hfz20_1 := blk_frozen BK102.out 1
              go_wp2
              go_meet
              case rel => exact ⟨_, (decide (((rd_T117 l0 x5_1).f1) > 4096)), (by first | rfl | (simp; done) | (simp [*]; done)), H', ⟨by have := HK1.out; first | omega | exact Nat.le_refl _⟩, ⟨by (with_reducible repeat (first | refine blk_drewN ?_ _ | refine blk_drew ?_ | refine blk_alloc ?_ _)); refine blk_put (cs := #[.int .i64 ((rd_T117 l0 x5_1).f0), .int .i64 0]) ?_ 1 _ rfl; (with_reducible repeat (first | refine blk_drewN ?_ _ | refine blk_drew ?_ | refine blk_alloc ?_ _)); refine blk_put (cs := #[.int .i64 0, .int .i64 0]) ?_ 0 _ rfl; (with_reducible repeat (first | refine blk_drewN ?_ _ | refine blk_drew ?_ | refine blk_alloc ?_ _)); exact BK102.out⟩, ⟨by repeat (first | (with_reducible first | exact HB.out | apply below_alloc | apply pw_below_drewN | apply below_drew1 | refine below_set ?_ GE102.out) | exact HB.out)⟩⟩
           ·rw [if_neg c15] at H
            have c15b0 : decide (0 < x5_1) = false := decide_eq_false c15
            clear c15
            by_cases c21 : ((rd_T117 l0 x5_1).f1) < 0
            ·rw [if_pos c21] at H
             have c21b0 : decide (((rd_T117 l0 x5_1).f1) < 0) = true := decide_eq_true c21
             clear c21
             have H' := Aside0.mk H
             clear H
             have hcz22_0 : w6.cell? ⟨gb102, 0, none⟩ = some (.int .i64 0) := (blk_cell BK102.out 0).trans rfl
             have hcz22_1 : w6.cell? ⟨gb102, 1, none⟩ = some (.int .i64 0) := (blk_cell BK102.out 1).trans rfl
             have hfz22_0 := blk_frozen BK102.out 0
             have hfz22_1 := blk_frozen BK102.out 1
             go_wp2
             go_meet
             case rel => exact ⟨_, (true), (by first | rfl | (simp; done) | (simp [*]; done)), H', ⟨by have := HK1.out; first | omega | exact Nat.le_refl _⟩, ⟨by (with_reducible repeat (first | refine blk_drewN ?_ _ | refine blk_drew ?_ | refine blk_alloc ?_ _)); refine blk_put (cs := #[.int .i64 ((rd_T117 l0 x5_1).f0), .int .i64 0]) ?_ 1 _ rfl; (with_reducible repeat (first | refine blk_drewN ?_ _ | refine blk_drew ?_ | refine blk_alloc ?_ _)); refine blk_put (cs := #[.int .i64 0, .int .i64 0]) ?_ 0 _ rfl; (with_reducible repeat (first | refine blk_drewN ?_ _ | refine blk_drew ?_ | refine blk_alloc ?_ _)); exact BK102.out⟩, ⟨by repeat (first | (with_reducible first | exact HB.out | apply below_alloc | apply pw_below_drewN | apply below_drew1 | refine below_set ?_ GE102.out) | exact HB.out)⟩⟩
            ·rw [if_neg c21] at H
             have c21b0 : decide (((rd_T117 l0 x5_1).f1) < 0) = false := decide_eq_false c21
             clear c21
             have H' := Aside0.mk H
             clear H
             have hcz23_0 : w6.cell? ⟨gb102, 0, none⟩ = some (.int .i64 0) := (blk_cell BK102.out 0).trans rfl
             have hcz23_1 : w6.cell? ⟨gb102, 1, none⟩ = some (.int .i64 0) := (blk_cell BK102.out 1).trans rfl
             have hfz23_0 := blk_frozen BK102.out 0
             have hfz23_1 := blk_frozen BK102.out 1
             go_wp2
             go_meet
             case rel => exact ⟨_, (decide (((rd_T117 l0 x5_1).f1) > 4096)), (by first | rfl | (simp; done) | (simp [*]; done)), H', ⟨by have := HK1.out; first | omega | exact Nat.le_refl _⟩, ⟨by (with_reducible repeat (first | refine blk_drewN ?_ _ | refine blk_drew ?_ | refine blk_alloc ?_ _)); refine blk_put (cs := #[.int .i64 ((rd_T117 l0 x5_1).f0), .int .i64 0]) ?_ 1 _ rfl; (with_reducible repeat (first | refine blk_drewN ?_ _ | refine blk_drew ?_ | refine blk_alloc ?_ _)); refine blk_put (cs := #[.int .i64 0, .int .i64 0]) ?_ 0 _ rfl; (with_reducible repeat (first | refine blk_drewN ?_ _ | refine blk_drew ?_ | refine blk_alloc ?_ _)); exact BK102.out⟩, ⟨by repeat (first | (with_reducible first | exact HB.out | apply below_alloc | apply pw_below_drewN | apply below_drew1 | refine below_set ?_ GE102.out) | exact HB.out)⟩⟩
         ·rw [if_neg c12] at H
          have c12b0 : (x5_1 == 0) = false := beq_eq_false_iff_ne.mpr c12
          have c12b1 : (x5_1 != 0) = true := bne_iff_ne.mpr c12
          by_cases c24 : x5_1 > 0
          ·rw [if_pos c24] at H
           have c24b0 : decide (0 < x5_1) = true := decide_eq_true c24
           clear c24
           by_cases c25 : ((rd_T117 l0 x5_1).f0) < 0
           ·rw [if_pos c25] at H
            have c25b0 : decide (((rd_T117 l0 x5_1).f0) < 0) = true := decide_eq_true c25
            clear c25
            have H' := Aside0.mk H
            clear H
            have hcz26_0 : w6.cell? ⟨gb102, 0, none⟩ = some (.int .i64 0) := (blk_cell BK102.out 0).trans rfl
            have hcz26_1 : w6.cell? ⟨gb102, 1, none⟩ = some (.int .i64 0) := (blk_cell BK102.out 1).trans rfl
            have hfz26_0 := blk_frozen BK102.out 0
            have hfz26_1 := blk_frozen BK102.out 1
            go_wp2
            go_meet
            case rel => exact ⟨_, (true), (by first | rfl | (simp; done) | (simp [*]; done)), H', ⟨by have := HK1.out; first | omega | exact Nat.le_refl _⟩, ⟨by (with_reducible repeat (first | refine blk_drewN ?_ _ | refine blk_drew ?_ | refine blk_alloc ?_ _)); refine blk_put (cs := #[.int .i64 ((rd_T117 l0 x5_1).f0), .int .i64 0]) ?_ 1 _ rfl; (with_reducible repeat (first | refine blk_drewN ?_ _ | refine blk_drew ?_ | refine blk_alloc ?_ _)); refine blk_put (cs := #[.int .i64 0, .int .i64 0]) ?_ 0 _ rfl; (with_reducible repeat (first | refine blk_drewN ?_ _ | refine blk_drew ?_ | refine blk_alloc ?_ _)); exact BK102.out⟩, ⟨by repeat (first | (with_reducible first | exact HB.out | apply below_alloc | apply pw_below_drewN | apply below_drew1 | refine below_set ?_ GE102.out) | exact HB.out)⟩⟩
           ·rw [if_neg c25] at H
            have c25b0 : decide (((rd_T117 l0 x5_1).f0) < 0) = false := decide_eq_false c25
            clear c25
            by_cases c27 : ((rd_T117 l0 x5_1).f1) < 0
            ·rw [if_pos c27] at H
             have c27b0 : decide (((rd_T117 l0 x5_1).f1) < 0) = true := decide_eq_true c27
             clear c27
             have H' := Aside0.mk H
             clear H
             have hcz28_0 : w6.cell? ⟨gb102, 0, none⟩ = some (.int .i64 0) := (blk_cell BK102.out 0).trans rfl
             have hcz28_1 : w6.cell? ⟨gb102, 1, none⟩ = some (.int .i64 0) := (blk_cell BK102.out 1).trans rfl
             have hfz28_0 := blk_frozen BK102.out 0
             have hfz28_1 := blk_frozen BK102.out 1
             go_wp2
             go_meet
             case rel => exact ⟨_, (true), (by first | rfl | (simp; done) | (simp [*]; done)), H', ⟨by have := HK1.out; first | omega | exact Nat.le_refl _⟩, ⟨by (with_reducible repeat (first | refine blk_drewN ?_ _ | refine blk_drew ?_ | refine blk_alloc ?_ _)); refine blk_put (cs := #[.int .i64 ((rd_T117 l0 x5_1).f0), .int .i64 0]) ?_ 1 _ rfl; (with_reducible repeat (first | refine blk_drewN ?_ _ | refine blk_drew ?_ | refine blk_alloc ?_ _)); refine blk_put (cs := #[.int .i64 0, .int .i64 0]) ?_ 0 _ rfl; (with_reducible repeat (first | refine blk_drewN ?_ _ | refine blk_drew ?_ | refine blk_alloc ?_ _)); exact BK102.out⟩, ⟨by repeat (first | (with_reducible first | exact HB.out | apply below_alloc | apply pw_below_drewN | apply below_drew1 | refine below_set ?_ GE102.out) | exact HB.out)⟩⟩
            ·rw [if_neg c27] at H
             have c27b0 : decide (((rd_T117 l0 x5_1).f1) < 0) = false := decide_eq_false c27
             clear c27
             have H' := Aside0.mk H
             clear H
             have hcz29_0 : w6.cell? ⟨gb102, 0, none⟩ = some (.int .i64 0) := (blk_cell BK102.out 0).trans rfl
             have hcz29_1 : w6.cell? ⟨gb102, 1, none⟩ = some (.int .i64 0) := (blk_cell BK102.out 1).trans rfl
             have hfz29_0 := blk_frozen BK102.out 0
             have hfz29_1 := blk_frozen BK102.out 1
             go_wp2
             go_meet
             case rel => exact ⟨_, (decide (((rd_T117 l0 x5_1).f1) > 4096)), (by first | rfl | (simp; done) | (simp [*]; done)), H', ⟨by have := HK1.out; first | omega | exact Nat.le_refl _⟩, ⟨by (with_reducible repeat (first | refine blk_drewN ?_ _ | refine blk_drew ?_ | refine blk_alloc ?_ _)); refine blk_put (cs := #[.int .i64 ((rd_T117 l0 x5_1).f0), .int .i64 0]) ?_ 1 _ rfl; (with_reducible repeat (first | refine blk_drewN ?_ _ | refine blk_drew ?_ | refine blk_alloc ?_ _)); refine blk_put (cs := #[.int .i64 0, .int .i64 0]) ?_ 0 _ rfl; (with_reducible repeat (first | refine blk_drewN ?_ _ | refine blk_drew ?_ | refine blk_alloc ?_ _)); exact BK102.out⟩, ⟨by repeat (first | (with_reducible first | exact HB.out | apply below_alloc | apply pw_below_drewN | apply below_drew1 | refine below_set ?_ GE102.out) | exact HB.out)⟩⟩
          ·rw [if_neg c24] at H
           have c24b0 : decide (0 < x5_1) = false := decide_eq_false c24
           clear c24
           by_cases c30 : ((rd_T117 l0 x5_1).f1) < 0
           ·rw [if_pos c30] at H
            have c30b0 : decide (((rd_T117 l0 x5_1).f1) < 0) = true := decide_eq_true c30
            clear c30
            have H' := Aside0.mk H
            clear H
            have hcz31_0 : w6.cell? ⟨gb102, 0, none⟩ = some (.int .i64 0) := (blk_cell BK102.out 0).trans rfl
            have hcz31_1 : w6.cell? ⟨gb102, 1, none⟩ = some (.int .i64 0) := (blk_cell BK102.out 1).trans rfl
            have hfz31_0 := blk_frozen BK102.out 0
            have hfz31_1 := blk_frozen BK102.out 1
            go_wp2
            go_meet
            case rel => exact ⟨_, (true), (by first | rfl | (simp; done) | (simp [*]; done)), H', ⟨by have := HK1.out; first | omega | exact Nat.le_refl _⟩, ⟨by (with_reducible repeat (first | refine blk_drewN ?_ _ | refine blk_drew ?_ | refine blk_alloc ?_ _)); refine blk_put (cs := #[.int .i64 ((rd_T117 l0 x5_1).f0), .int .i64 0]) ?_ 1 _ rfl; (with_reducible repeat (first | refine blk_drewN ?_ _ | refine blk_drew ?_ | refine blk_alloc ?_ _)); refine blk_put (cs := #[.int .i64 0, .int .i64 0]) ?_ 0 _ rfl; (with_reducible repeat (first | refine blk_drewN ?_ _ | refine blk_drew ?_ | refine blk_alloc ?_ _)); exact BK102.out⟩, ⟨by repeat (first | (with_reducible first | exact HB.out | apply below_alloc | apply pw_below_drewN | apply below_drew1 | refine below_set ?_ GE102.out) | exact HB.out)⟩⟩
           ·rw [if_neg c30] at H
            have c30b0 : decide (((rd_T117 l0 x5_1).f1) < 0) = false := decide_eq_false c30
            clear c30
            have H' := Aside0.mk H
            clear H
            have hcz32_0 : w6.cell? ⟨gb102, 0, none⟩ = some (.int .i64 0) := (blk_cell BK102.out 0).trans rfl
            have hcz32_1 : w6.cell? ⟨gb102, 1, none⟩ = some (.int .i64 0) := (blk_cell BK102.out 1).trans rfl
            have hfz32_0 := blk_frozen BK102.out 0
            have hfz32_1 := blk_frozen BK102.out 1
            go_wp2
            go_meet
            case rel => exact ⟨_, (decide (((rd_T117 l0 x5_1).f1) > 4096)), (by first | rfl | (simp; done) | (simp [*]; done)), H', ⟨by have := HK1.out; first | omega | exact Nat.le_refl _⟩, ⟨by (with_reducible repeat (first | refine blk_drewN ?_ _ | refine blk_drew ?_ | refine blk_alloc ?_ _)); refine blk_put (cs := #[.int .i64 ((rd_T117 l0 x5_1).f0), .int .i64 0]) ?_ 1 _ rfl; (with_reducible repeat (first | refine blk_drewN ?_ _ | refine blk_drew ?_ | refine blk_alloc ?_ _)); refine blk_put (cs := #[.int .i64 0, .int .i64 0]) ?_ 0 _ rfl; (with_reducible repeat (first | refine blk_drewN ?_ _ | refine blk_drew ?_ | refine blk_alloc ?_ _)); exact BK102.out⟩, ⟨by repeat (first | (with_reducible first | exact HB.out | apply below_alloc | apply pw_below_drewN | apply below_drew1 | refine below_set ?_ GE102.out) | exact HB.out)⟩⟩
      case rest =>
       clear HC5
       try clear c1
       try clear p1
       try clear q1
       try clear hx1
       try clear c2
       try clear c2b0
       try clear c2b1
       try clear p2
       try clear c3
       try clear c3b0
       try clear c4
       try clear c4b0
       try clear c6
       try clear c8
       try clear c8b0
       try clear c10
       try clear c10b0
       try clear p10
       try clear q10
       try clear hx10
       try clear c12
       try clear c12b0
       try clear c12b1
       try clear c13
       try clear c13b0
       try clear c15
       try clear c15b0
       try clear c16
       try clear c16b0
       try clear c18
       try clear c18b0
       try clear c21
       try clear c21b0
       try clear c24
       try clear c24b0
       try clear c25
       try clear c25b0
       try clear c27
       try clear c27b0
       try clear c30
       try clear c30b0
       try clear hcz11_0
       try clear hcz11_1
       try clear hcz14_0
       try clear hcz14_1
       try clear hcz17_0
       try clear hcz17_1
       try clear hcz19_0
       try clear hcz19_1
       try clear hcz20_0
       try clear hcz20_1
       try clear hcz22_0
       try clear hcz22_1
       try clear hcz23_0
       try clear hcz23_1
       try clear hcz26_0
       try clear hcz26_1
       try clear hcz28_0
       try clear hcz28_1
       try clear hcz29_0
       try clear hcz29_1
       try clear hcz31_0
       try clear hcz31_1
       try clear hcz32_0
       try clear hcz32_1
       try clear hcz7_0
       try clear hcz7_1
       try clear hcz9_0
       try clear hcz9_1
       try clear hfz11_0
       try clear hfz11_1
       try clear hfz14_0
       try clear hfz14_1
       try clear hfz17_0
       try clear hfz17_1
       try clear hfz19_0
       try clear hfz19_1
       try clear hfz20_0
       try clear hfz20_1
       try clear hfz22_0
       try clear hfz22_1
       try clear hfz23_0
       try clear hfz23_1
       try clear hfz26_0
       try clear hfz26_1
       try clear hfz28_0
       try clear hfz28_1
       try clear hfz29_0
       try clear hfz29_1
       try clear hfz31_0
       try clear hfz31_1
       try clear hfz32_0
       try clear hfz32_1
       try clear hfz7_0
       try clear hfz7_1
       try clear hfz9_0
       try clear hfz9_1
       try clear hx101_0
       try clear hx101_1
       try clear p101
       try clear p2
       try clear q101
       obtain ⟨kq, x56_4, rfl, HA, HJ4, BK102, HB⟩ := hcut
       cases kq with
       | zero => exact absurd HA.out (by simp [tidepoleref06_Check.j1])
       | succ kj4 =>
        have H := HA.out
        clear HA
        simp only [tidepoleref06_Check.j1] at H
        by_cases c33 : x56_4 = true
        ·subst c33
         have H1 : (some 20) = some r := by rw [if_pos rfl] at H; exact H
         clear H
         have H := H1
         clear H1
         obtain rfl := Option.some.inj H
         go_wp2
         go_ret
         exact ⟨by first | rfl | (simp [errW_none, errW_some] <;> rfl) | (simp [*, errW_none, errW_some] <;> rfl), by repeat (first | (with_reducible first | exact HB.out | apply below_alloc | apply pw_below_drewN | apply below_drew1 | refine below_set ?_ GE102.out) | exact HB.out)⟩
        ·replace c33 := Bool.eq_false_iff.mpr c33
         subst c33
         have H1 : (if (wrap64 (x3_1 + ((rd_T117 l0 x5_1).f0))) < (-1048576) then (tidepoleref06_Check.j2 kj4 l0 (wrap64 (x3_1 + ((rd_T117 l0 x5_1).f0))) x4_1 x5_1 true ((rd_T117 l0 x5_1).f0) ((rd_T117 l0 x5_1).f1)) else (tidepoleref06_Check.j2 kj4 l0 (wrap64 (x3_1 + ((rd_T117 l0 x5_1).f0))) x4_1 x5_1 (decide ((wrap64 (x3_1 + ((rd_T117 l0 x5_1).f0))) > 1048576)) ((rd_T117 l0 x5_1).f0) ((rd_T117 l0 x5_1).f1))) = some r := by rw [if_neg (show ¬ (false = true) by decide)] at H; exact H
         clear H
         have H := H1
         clear H1
         have HC34 := Aside0.mk H
         clear H
         have hcz35_0 : wc.cell? ⟨gb102, 0, none⟩ = some (.int .i64 ((rd_T117 l0 x5_1).f0)) := (blk_cell BK102.out 0).trans rfl
         have hcz35_1 : wc.cell? ⟨gb102, 1, none⟩ = some (.int .i64 ((rd_T117 l0 x5_1).f1)) := (blk_cell BK102.out 1).trans rfl
         have hfz35_0 := blk_frozen BK102.out 0
         have hfz35_1 := blk_frozen BK102.out 1
         go_upto_region 11 with (fail)
         go_cut [66] (fun v66 wc => ∃ (kq : Nat) (x66_33 : Bool), v66 = .bool x66_33 ∧ Aside0 (tidepoleref06_Check.j2 kq l0 (wrap64 (x3_1 + ((rd_T117 l0 x5_1).f0))) x4_1 x5_1 x66_33 ((rd_T117 l0 x5_1).f0) ((rd_T117 l0 x5_1).f1) = some r) ∧ Aside0 (kq ≤ kj4) ∧ Aside0 (wc.heap[gb102]? = some (.cells #[.int .i64 ((rd_T117 l0 x5_1).f0), .int .i64 ((rd_T117 l0 x5_1).f1)] 117 (0, 0))) ∧ Aside0 (Below w.heap.size w wc))
         case first =>
          have H := HC34.out
          clear HC34
          by_cases c36 : (wrap64 (x3_1 + ((rd_T117 l0 x5_1).f0))) < (-1048576)
          ·rw [if_pos c36] at H
           have c36b0 : decide ((wrap64 (x3_1 + ((rd_T117 l0 x5_1).f0))) < (-1048576)) = true := decide_eq_true c36
           clear c36
           (first | rw [c36b0] | (simp only [i64_w, i32_w]; rw [c36b0]) | skip)
           have H' := Aside0.mk H
           clear H
           go_wp2
           go_meet
           case rel => exact ⟨_, (true), (by first | rfl | (simp; done) | (simp [*]; done)), H', ⟨by have := HK1.out; have := HJ4.out; first | omega | exact Nat.le_refl _⟩, ⟨by (with_reducible repeat (first | refine blk_drewN ?_ _ | refine blk_drew ?_ | refine blk_alloc ?_ _)); exact BK102.out⟩, ⟨by repeat (first | (with_reducible first | exact HB.out | apply below_alloc | apply pw_below_drewN | apply below_drew1 | refine below_set ?_ GE102.out) | exact HB.out)⟩⟩
          ·rw [if_neg c36] at H
           have c36b0 : decide ((wrap64 (x3_1 + ((rd_T117 l0 x5_1).f0))) < (-1048576)) = false := decide_eq_false c36
           clear c36
           (first | rw [c36b0] | (simp only [i64_w, i32_w]; rw [c36b0]) | skip)
           have H' := Aside0.mk H
           clear H
           go_wp2
           go_meet
           case rel => exact ⟨_, (decide ((wrap64 (x3_1 + ((rd_T117 l0 x5_1).f0))) > 1048576)), (by first | rfl | (simp; done) | (simp [*]; done)), H', ⟨by have := HK1.out; have := HJ4.out; first | omega | exact Nat.le_refl _⟩, ⟨by (with_reducible repeat (first | refine blk_drewN ?_ _ | refine blk_drew ?_ | refine blk_alloc ?_ _)); exact BK102.out⟩, ⟨by repeat (first | (with_reducible first | exact HB.out | apply below_alloc | apply pw_below_drewN | apply below_drew1 | refine below_set ?_ GE102.out) | exact HB.out)⟩⟩
         case rest =>
          clear HC34
          try clear c1
          try clear p1
          try clear q1
          try clear hx1
          try clear c2
          try clear c2b0
          try clear c2b1
          try clear p2
          try clear c3
          try clear c3b0
          try clear c4
          try clear c4b0
          try clear c6
          try clear p6
          try clear c8
          try clear c8b0
          try clear c10
          try clear c10b0
          try clear p10
          try clear q10
          try clear hx10
          try clear c12
          try clear c12b0
          try clear c12b1
          try clear c13
          try clear c13b0
          try clear c15
          try clear c15b0
          try clear c16
          try clear c16b0
          try clear c18
          try clear c18b0
          try clear c21
          try clear c21b0
          try clear c24
          try clear c24b0
          try clear c25
          try clear c25b0
          try clear c27
          try clear c27b0
          try clear c30
          try clear c30b0
          try clear c33
          try clear c36
          try clear c36b0
          try clear hcz11_0
          try clear hcz11_1
          try clear hcz14_0
          try clear hcz14_1
          try clear hcz17_0
          try clear hcz17_1
          try clear hcz19_0
          try clear hcz19_1
          try clear hcz20_0
          try clear hcz20_1
          try clear hcz22_0
          try clear hcz22_1
          try clear hcz23_0
          try clear hcz23_1
          try clear hcz26_0
          try clear hcz26_1
          try clear hcz28_0
          try clear hcz28_1
          try clear hcz29_0
          try clear hcz29_1
          try clear hcz31_0
          try clear hcz31_1
          try clear hcz32_0
          try clear hcz32_1
          try clear hcz35_0
          try clear hcz35_1
          try clear hcz7_0
          try clear hcz7_1
          try clear hcz9_0
          try clear hcz9_1
          try clear hfz11_0
          try clear hfz11_1
          try clear hfz14_0
          try clear hfz14_1
          try clear hfz17_0
          try clear hfz17_1
          try clear hfz19_0
          try clear hfz19_1
          try clear hfz20_0
          try clear hfz20_1
          try clear hfz22_0
          try clear hfz22_1
          try clear hfz23_0
          try clear hfz23_1
          try clear hfz26_0
          try clear hfz26_1
          try clear hfz28_0
          try clear hfz28_1
          try clear hfz29_0
          try clear hfz29_1
          try clear hfz31_0
          try clear hfz31_1
          try clear hfz32_0
          try clear hfz32_1
          try clear hfz35_0
          try clear hfz35_1
          try clear hfz7_0
          try clear hfz7_1
          try clear hfz9_0
          try clear hfz9_1
          try clear hx101_0
          try clear hx101_1
          try clear p1
          try clear p10
          try clear p101
          try clear p2
          try clear q1
          try clear q10
          try clear q101
          obtain ⟨kq, x66_33, rfl, HA, HJ33, BK102, HB⟩ := hcut
          cases kq with
          | zero => exact absurd HA.out (by simp [tidepoleref06_Check.j2])
          | succ kj33 =>
           have H := HA.out
           clear HA
           simp only [tidepoleref06_Check.j2] at H
           by_cases c37 : x66_33 = true
           ·subst c37
            have H1 : (some 20) = some r := by rw [if_pos rfl] at H; exact H
            clear H
            have H := H1
            clear H1
            obtain rfl := Option.some.inj H
            go_wp2
            go_ret
            exact ⟨by first | rfl | (simp [errW_none, errW_some] <;> rfl) | (simp [*, errW_none, errW_some] <;> rfl), by repeat (first | (with_reducible first | exact HB.out | apply below_alloc | apply pw_below_drewN | apply below_drew1 | refine below_set ?_ GE102.out) | exact HB.out)⟩
           ·replace c37 := Bool.eq_false_iff.mpr c37
            subst c37
            have H1 : (tidepoleref06_Check.l1 kj33 l0 (wrap64 (x3_1 + ((rd_T117 l0 x5_1).f0))) x4_1 x5_1 0 ((rd_T117 l0 x5_1).f0) ((rd_T117 l0 x5_1).f1)) = some r := by rw [if_neg (show ¬ (false = true) by decide)] at H; exact H
            clear H
            have H := H1
            clear H1
            have H' := Aside0.mk H
            clear H
            go_wp2
            go_loopg [3, 4, 7] kj33 (fun kq v3 v4 v7 w' => ∃ (x3_4 : Int) (x4_4 : Int) (x7_4 : Int), v3 = .int .i64 x3_4 ∧ v4 = .int .i64 x4_4 ∧ v7 = .int .i64 x7_4 ∧ Aside0 (tidepoleref06_Check.l1 kq l0 x3_4 x4_4 x5_1 x7_4 ((rd_T117 l0 x5_1).f0) ((rd_T117 l0 x5_1).f1) = some r) ∧ Aside0 (kq ≤ kj33) ∧ Aside0 (w'.heap[gb102]? = some (.cells #[.int .i64 ((rd_T117 l0 x5_1).f0), .int .i64 ((rd_T117 l0 x5_1).f1)] 117 (0, 0))) ∧ Aside0 (Below w.heap.size w w'))
            case atStart => exact ⟨((wrap64 (x3_1 + ((rd_T117 l0 x5_1).f0)))), (x4_1), (0), (by first | rfl | (simp; done) | (simp [*]; done)), (by first | rfl | (simp; done) | (simp [*]; done)), (by first | rfl | (simp; done) | (simp [*]; done)), H', ⟨Nat.le_refl _⟩, ⟨by (with_reducible repeat (first | refine blk_drewN ?_ _ | refine blk_drew ?_ | refine blk_alloc ?_ _)); exact BK102.out⟩, ⟨by repeat (first | (with_reducible first | exact HB.out | apply below_alloc | apply pw_below_drewN | apply below_drew1 | refine below_set ?_ GE102.out) | exact HB.out)⟩⟩
            case round =>
             clear H'
             try clear c1
             try clear p1
             try clear q1
             try clear hx1
             try clear c2
             try clear c2b0
             try clear c2b1
             try clear p2
             try clear c3
             try clear c3b0
             try clear c4
             try clear c4b0
             try clear c6
             try clear p6
             try clear c8
             try clear c8b0
             try clear c10
             try clear c10b0
             try clear p10
             try clear q10
             try clear hx10
             try clear c12
             try clear c12b0
             try clear c12b1
             try clear c13
             try clear c13b0
             try clear c15
             try clear c15b0
             try clear c16
             try clear c16b0
             try clear c18
             try clear c18b0
             try clear c21
             try clear c21b0
             try clear c24
             try clear c24b0
             try clear c25
             try clear c25b0
             try clear c27
             try clear c27b0
             try clear c30
             try clear c30b0
             try clear c33
             try clear c36
             try clear c36b0
             try clear c37
             try clear hcz11_0
             try clear hcz11_1
             try clear hcz14_0
             try clear hcz14_1
             try clear hcz17_0
             try clear hcz17_1
             try clear hcz19_0
             try clear hcz19_1
             try clear hcz20_0
             try clear hcz20_1
             try clear hcz22_0
             try clear hcz22_1
             try clear hcz23_0
             try clear hcz23_1
             try clear hcz26_0
             try clear hcz26_1
             try clear hcz28_0
             try clear hcz28_1
             try clear hcz29_0
             try clear hcz29_1
             try clear hcz31_0
             try clear hcz31_1
             try clear hcz32_0
             try clear hcz32_1
             try clear hcz35_0
             try clear hcz35_1
             try clear hcz7_0
             try clear hcz7_1
             try clear hcz9_0
             try clear hcz9_1
             try clear hfz11_0
             try clear hfz11_1
             try clear hfz14_0
             try clear hfz14_1
             try clear hfz17_0
             try clear hfz17_1
             try clear hfz19_0
             try clear hfz19_1
             try clear hfz20_0
             try clear hfz20_1
             try clear hfz22_0
             try clear hfz22_1
             try clear hfz23_0
             try clear hfz23_1
             try clear hfz26_0
             try clear hfz26_1
             try clear hfz28_0
             try clear hfz28_1
             try clear hfz29_0
             try clear hfz29_1
             try clear hfz31_0
             try clear hfz31_1
             try clear hfz32_0
             try clear hfz32_1
             try clear hfz35_0
             try clear hfz35_1
             try clear hfz7_0
             try clear hfz7_1
             try clear hfz9_0
             try clear hfz9_1
             try clear hx101_0
             try clear hx101_1
             try clear p1
             try clear p10
             try clear p101
             try clear p2
             try clear p6
             try clear q1
             try clear q10
             try clear q101
             obtain ⟨x3_4, x4_4, x7_4, rfl, rfl, rfl, HA, HK4, BK102, HB⟩ := hrel
             cases gk with
             | zero => exact absurd HA.out (by simp [tidepoleref06_Check.l1])
             | succ k4 =>
              have H := HA.out
              clear HA
              simp only [tidepoleref06_Check.l1] at H
              by_cases c38 : x7_4 < ((rd_T117 l0 x5_1).f1)
              ·rw [if_pos c38] at H
               have c38b0 : decide (x7_4 < ((rd_T117 l0 x5_1).f1)) = true := decide_eq_true c38
               clear c38
               by_cases c39 : x3_4 > 1048576
               ·rw [if_pos c39] at H
                have c39b0 : decide (1048576 < x3_4) = true := decide_eq_true c39
                clear c39
                obtain rfl := Option.some.inj H
                have hcz40_0 : wr.cell? ⟨gb102, 0, none⟩ = some (.int .i64 ((rd_T117 l0 x5_1).f0)) := (blk_cell BK102.out 0).trans rfl
                have hcz40_1 : wr.cell? ⟨gb102, 1, none⟩ = some (.int .i64 ((rd_T117 l0 x5_1).f1)) := (blk_cell BK102.out 1).trans rfl
                have hfz40_0 := blk_frozen BK102.out 0
                have hfz40_1 := blk_frozen BK102.out 1
                go_wp2
                go_ret
                exact ⟨by first | rfl | (simp [errW_none, errW_some] <;> rfl) | (simp [*, errW_none, errW_some] <;> rfl), by repeat (first | (with_reducible first | exact HB.out | apply below_alloc | apply pw_below_drewN | apply below_drew1 | refine below_set ?_ GE102.out) | exact HB.out)⟩
               ·rw [if_neg c39] at H
                have c39b0 : decide (1048576 < x3_4) = false := decide_eq_false c39
                clear c39
                have H' := Aside0.mk H
                clear H
                have hcz41_0 : wr.cell? ⟨gb102, 0, none⟩ = some (.int .i64 ((rd_T117 l0 x5_1).f0)) := (blk_cell BK102.out 0).trans rfl
                have hcz41_1 : wr.cell? ⟨gb102, 1, none⟩ = some (.int .i64 ((rd_T117 l0 x5_1).f1)) := (blk_cell BK102.out 1).trans rfl
                have hfz41_0 := blk_frozen BK102.out 0
                have hfz41_1 := blk_frozen BK102.out 1
                go_wp2
                go_roundg k4
                case measure => have := HK1.out; have := HJ4.out; have := HJ33.out; have := HK4.out; omega
                case rel => exact ⟨(wrap64 (x3_4 + 1)), (wrap64 (x4_4 + 1)), (wrap64 (x7_4 + 1)), (by first | rfl | (simp; done) | (simp [*]; done)), (by first | rfl | (simp; done) | (simp [*]; done)), (by first | rfl | (simp; done) | (simp [*]; done)), H', ⟨by have := HK1.out; have := HJ4.out; have := HJ33.out; have := HK4.out; omega⟩, ⟨by (with_reducible repeat (first | refine blk_drewN ?_ _ | refine blk_drew ?_ | refine blk_alloc ?_ _)); exact BK102.out⟩, ⟨by repeat (first | (with_reducible first | exact HB.out | apply below_alloc | apply pw_below_drewN | apply below_drew1 | refine below_set ?_ GE102.out) | exact HB.out)⟩⟩
              ·rw [if_neg c38] at H
               have c38b0 : decide (x7_4 < ((rd_T117 l0 x5_1).f1)) = false := decide_eq_false c38
               clear c38
               by_cases c42 : x4_4 > 4096
               ·rw [if_pos c42] at H
                have c42b0 : decide (4096 < x4_4) = true := decide_eq_true c42
                clear c42
                obtain rfl := Option.some.inj H
                have hcz43_0 : wr.cell? ⟨gb102, 0, none⟩ = some (.int .i64 ((rd_T117 l0 x5_1).f0)) := (blk_cell BK102.out 0).trans rfl
                have hcz43_1 : wr.cell? ⟨gb102, 1, none⟩ = some (.int .i64 ((rd_T117 l0 x5_1).f1)) := (blk_cell BK102.out 1).trans rfl
                have hfz43_0 := blk_frozen BK102.out 0
                have hfz43_1 := blk_frozen BK102.out 1
                go_wp2
                go_ret
                exact ⟨by first | rfl | (simp [errW_none, errW_some] <;> rfl) | (simp [*, errW_none, errW_some] <;> rfl), by repeat (first | (with_reducible first | exact HB.out | apply below_alloc | apply pw_below_drewN | apply below_drew1 | refine below_set ?_ GE102.out) | exact HB.out)⟩
               ·rw [if_neg c42] at H
                have c42b0 : decide (4096 < x4_4) = false := decide_eq_false c42
                clear c42
                have H' := Aside0.mk H
                clear H
                have hcz44_0 : wr.cell? ⟨gb102, 0, none⟩ = some (.int .i64 ((rd_T117 l0 x5_1).f0)) := (blk_cell BK102.out 0).trans rfl
                have hcz44_1 : wr.cell? ⟨gb102, 1, none⟩ = some (.int .i64 ((rd_T117 l0 x5_1).f1)) := (blk_cell BK102.out 1).trans rfl
                have hfz44_0 := blk_frozen BK102.out 0
                have hfz44_1 := blk_frozen BK102.out 1
                go_wp2
                go_roundg k4
                case measure => have := HK1.out; have := HJ4.out; have := HJ33.out; have := HK4.out; omega
                case rel => exact ⟨(x3_4), (x4_4), (wrap64 (x5_1 + 1)), (by first | rfl | (simp; done) | (simp [*]; done)), (by first | rfl | (simp; done) | (simp [*]; done)), (by first | rfl | (simp; done) | (simp [*]; done)), H', ⟨by have := HK1.out; have := HJ4.out; have := HJ33.out; have := HK4.out; omega⟩, ⟨by repeat (first | (with_reducible first | exact HB.out | apply below_alloc | apply pw_below_drewN | apply below_drew1 | refine below_set ?_ GE102.out) | exact HB.out)⟩⟩
     ·rw [if_neg c4] at H
      exact absurd H (by simp)
    ·rw [if_neg c3] at H
     have c3b0 : decide (x5_1 < (l0.length : Int)) = false := decide_eq_false c3
     clear c3
     obtain rfl := Option.some.inj H
     go_wp2
     go_ret
     exact ⟨by first | rfl | (simp [errW_none, errW_some] <;> rfl) | (simp [*, errW_none, errW_some] <;> rfl), by repeat (first | (with_reducible first | exact HB.out | apply below_alloc | apply pw_below_drewN | apply below_drew1) | exact HB.out)⟩
mutual
def tidepoleref06_Places.l0 : Nat → List (S117) → List Int → Int → Int → Option (List Int)
 | 0, _, _, _, _ => none
 | k + 1, x0, x3, x4, x5 => if x5 < (x0.length : Int) then (if 0 ≤ x5 then (tidepoleref06_Places.l1 k x0 x3 (wrap64 (x4 + ((rd_T117 x0 x5).f0))) x5 0) else (none)) else (some x3)
def tidepoleref06_Places.l1 : Nat → List (S117) → List Int → Int → Int → Int → Option (List Int)
 | 0, _, _, _, _, _ => none
 | k + 1, x0, x3, x4, x5, x6 => if 0 ≤ x5 then (if x5 < (x0.length : Int) then (if x6 < ((rd_T117 x0 x5).f1) then (if x3.length < 17592186044416 then (tidepoleref06_Places.l1 k x0 (x3 ++ [x4]) (wrap64 (x4 + 1)) x5 (wrap64 (x6 + 1))) else (none)) else (tidepoleref06_Places.l0 k x0 x3 x4 (wrap64 (x5 + 1)))) else (none)) else (none)
end
def tidepoleref06_Places.f (k : Nat) (l0 : List (S117)) : Option (List Int) := tidepoleref06_Places.l0 k l0 ([] : List Int) 0 0
set_option maxHeartbeats 8000000 in
set_option maxRecDepth 100000 in
theorem tidepoleref06_Places.calls (k : Nat) (A0 : Option Addr) (c0 : Nat) (l0 : List (S117)) (r : List Int) (w : World) (hr0 : Kd.C k117 w A0 l0.length l0) (hc0 : l0.length ≤ c0) (h : tidepoleref06_Places.f k l0 = some r) :
  Calls Try.prog 70 #[.slice A0 l0.length c0] w fun e w' => ∃ v0_ : Value, e = .returned (v0_) ∧ Kd.R (Kd.int .i64) 3 w' w.heap.size (fun _ => True) v0_ r ∧ Below w.heap.size w w' := by
 have HR0 := Aside0.mk hr0
 have HC0 := Aside0.mk hc0
 clear hr0 hc0
 have HB := Aside0.mk (Below.refl w.heap.size w)
 have H : (tidepoleref06_Places.l0 k l0 ([] : List Int) 0 0) = some r := h
 clear h
 have H' := Aside0.mk H
 clear H
 go_enter Try.func70, Try.ntmps70
 go_wp2
 go_loopg [3, 4, 5] k (fun kq v3 v4 v5 w' => ∃ (x3_1 : List Int) (x4_1 : Int) (x5_1 : Int), v4 = .int .i64 x4_1 ∧ v5 = .int .i64 x5_1 ∧ Aside0 (tidepoleref06_Places.l0 kq l0 x3_1 x4_1 x5_1 = some r) ∧ Aside0 (kq ≤ k) ∧ Aside0 (Kd.R (Kd.int .i64) 3 w' w.heap.size (fun _ => True) v3 x3_1) ∧ Aside0 (Below w.heap.size w w'))
 case atStart => exact ⟨(([] : List Int)), (0), (0), (by first | rfl | (simp; done) | (simp [*]; done)), (by first | rfl | (simp; done) | (simp [*]; done)), H', ⟨Nat.le_refl _⟩, ⟨by first | exact Kd.R_nil _ _ _ _ _ | exact Kd.N_nil _ _ _ _ _ | exact Kd.V_nil _ _ _ _ _ | exact Kd.Q_nil _ _ _ _ _ | exact Kd.S_nil _ _ _ _ _⟩, ⟨by repeat (first | (with_reducible first | exact HB.out | apply below_alloc | apply pw_below_drewN | apply below_drew1) | exact HB.out)⟩⟩
 case round =>
  clear H'
  obtain ⟨x3_1, x4_1, x5_1, rfl, rfl, HA, HK1, HO_3, HB⟩ := hrel
  cases gk with
  | zero => exact absurd HA.out (by simp [tidepoleref06_Places.l0])
  | succ k1 =>
   have H := HA.out
   clear HA
   simp only [tidepoleref06_Places.l0] at H
   by_cases c2 : x5_1 < (l0.length : Int)
   ·rw [if_pos c2] at H
    have c2b0 : decide (x5_1 < (l0.length : Int)) = true := decide_eq_true c2
    clear c2
    by_cases c3 : 0 ≤ x5_1
    ·rw [if_pos c3] at H
     have c3b0 : decide (0 ≤ x5_1) = true := decide_eq_true c3
     clear c3
     have H' := Aside0.mk H
     clear H
     have p101 : 0 ≤ (x5_1 : Int) := of_decide_eq_true (by first | (with_reducible assumption) | assumption)
     have q101 : x5_1 < (l0.length : Int) := of_decide_eq_true (by first | (with_reducible assumption) | assumption)
     obtain ⟨ad101, e101, hx101_0, hx101_1⟩ := at_T117 HR0.out x5_1 p101 q101
     cases e101
     replace hx101_0 := (HB.out.cell (World.block_lt_of_cell? w _ hx101_0)).trans hx101_0
     replace hx101_1 := (HB.out.cell (World.block_lt_of_cell? w _ hx101_1)).trans hx101_1
     replace p101 := eq_true p101
     replace q101 := eq_true q101
     go_wp2
     go_loopg [3, 4, 6] k1 (fun kq v3 v4 v6 w' => ∃ (x3_2 : List Int) (x4_2 : Int) (x6_2 : Int), v4 = .int .i64 x4_2 ∧ v6 = .int .i64 x6_2 ∧ Aside0 (tidepoleref06_Places.l1 kq l0 x3_2 x4_2 x5_1 x6_2 = some r) ∧ Aside0 (kq ≤ k1) ∧ Aside0 (Kd.R (Kd.int .i64) 3 w' w.heap.size (fun _ => True) v3 x3_2) ∧ Aside0 (Below w.heap.size w w'))
     case atStart => exact ⟨(x3_1), (wrap64 (x4_1 + ((rd_T117 l0 x5_1).f0))), (0), (by first | rfl | (simp; done) | (simp [*]; done)), (by first | rfl | (simp; done) | (simp [*]; done)), H', ⟨Nat.le_refl _⟩, ⟨by (with_reducible repeat (first | apply Kd.R_alloc | apply Kd.R_drewN | apply Kd.R_drew)); exact HO_3.out⟩, ⟨by repeat (first | (with_reducible first | exact HB.out | apply below_alloc | apply pw_below_drewN | apply below_drew1) | exact HB.out)⟩⟩
     case round =>
      clear H'
      try clear p1
      try clear q1
      try clear hx1
      try clear c2
      try clear c2b0
      try clear p2
      try clear c3
      try clear c3b0
      try clear hx101_0
      try clear hx101_1
      try clear p101
      try clear q101
      obtain ⟨x3_2, x4_2, x6_2, rfl, rfl, HA, HK2, HO_3, HB⟩ := hrel
      cases gk with
      | zero => exact absurd HA.out (by simp [tidepoleref06_Places.l1])
      | succ k2 =>
       have H := HA.out
       clear HA
       simp only [tidepoleref06_Places.l1] at H
       by_cases c4 : 0 ≤ x5_1
       ·rw [if_pos c4] at H
        have c4b0 : decide (0 ≤ x5_1) = true := decide_eq_true c4
        clear c4
        by_cases c5 : x5_1 < (l0.length : Int)
        ·rw [if_pos c5] at H
         have c5b0 : decide (x5_1 < (l0.length : Int)) = true := decide_eq_true c5
         clear c5
         by_cases c6 : x6_2 < ((rd_T117 l0 x5_1).f1)
         ·rw [if_pos c6] at H
          have c6b0 : decide (x6_2 < ((rd_T117 l0 x5_1).f1)) = true := decide_eq_true c6
          clear c6
          by_cases c7 : x3_2.length < 17592186044416
          ·rw [if_pos c7] at H
           have LMc7 := Aside0.mk c7
           clear c7
           obtain ⟨y103, hy103⟩ : ∃ y_ : List Int, y_ = (x3_2 ++ [x4_2]) := ⟨_, rfl⟩
           replace H : (tidepoleref06_Places.l1 k2 l0 y103 (wrap64 (x4_2 + 1)) x5_1 (wrap64 (x6_2 + 1))) = some r := by first | (rw [hy103]; with_reducible exact H) | (have H2_ := (Option.bind_some _ _).symm.trans H; rw [hy103]; with_reducible exact H2_) | (have H2_ := (Option.bind_some _ _).symm.trans H; with_reducible exact H2_) | with_reducible exact H | (rw [hy103]; exact H) | exact H
           have Ny103 := Aside0.mk hy103
           clear hy103
           have H' := Aside0.mk H
           clear H
           have p102 : 0 ≤ (x5_1 : Int) := of_decide_eq_true (by first | (with_reducible assumption) | assumption)
           have q102 : x5_1 < (l0.length : Int) := of_decide_eq_true (by first | (with_reducible assumption) | assumption)
           obtain ⟨ad102, e102, hx102_0, hx102_1⟩ := at_T117 HR0.out x5_1 p102 q102
           obtain rfl : ad101 = ad102 := (by injection e102)
           replace hx102_0 := (HB.out.cell (World.block_lt_of_cell? w _ hx102_0)).trans hx102_0
           replace hx102_1 := (HB.out.cell (World.block_lt_of_cell? w _ hx102_1)).trans hx102_1
           replace p102 := eq_true p102
           replace q102 := eq_true q102
           go_wp2_with (first | ((with_reducible refine gate_builtin (b := .append) (xs := #[.tmp 29, .tmp 31]) rfl ?_); at_builtin; refine Kd.R_append (Kd.int .i64) (w0 := w) w.heap.size rfl (.tmp 29) (.tmp 31) 47 3 (.int .i64 0) 8 rfl Try.underlying47 info3 rfl (by decide) (by omega) u3 x3_2 x4_2 [.int .i64 x4_2] (fun _ => True) (fun _ => False) rfl rfl ?aP (fun _ hk => hk.elim) ?aF ?aO ?aB ?aS ?aL ?_; (case aP => exact rfl); (case aB => exact (by repeat (first | (with_reducible first | exact HB.out | apply below_alloc | apply pw_below_drewN | apply below_drew1) | exact HB.out))); (case aF => exact (fun _ _ => trivial)); (case aO => exact (by (with_reducible repeat (first | apply Kd.R_alloc | apply Kd.R_drewN | apply Kd.R_drew)); exact HO_3.out)); (case aS => exact (below_size (by repeat (first | (with_reducible first | exact HB.out | apply below_alloc | apply pw_below_drewN | apply below_drew1) | exact HB.out)))); (case aL => have := LMc7.out; omega); intro v104 w8 ho hb hg hat; rw [← Ny103.out] at ho; have n0_ := Aside0.mk (hb); have n1_ := Aside0.mk (ho); clear HB; clear HO_3; have HB := n0_; have HO105 := n1_; clear n0_ n1_; clear ho hb hg hat))
           go_roundg k2
           case measure => have := HK1.out; have := HK2.out; omega
           case rel => exact ⟨(y103), (wrap64 (x4_2 + 1)), (wrap64 (x6_2 + 1)), (by first | rfl | (simp; done) | (simp [*]; done)), (by first | rfl | (simp; done) | (simp [*]; done)), H', ⟨by have := HK1.out; have := HK2.out; omega⟩, ⟨by (with_reducible repeat (first | apply Kd.R_alloc | apply Kd.R_drewN | apply Kd.R_drew)); exact HO105.out⟩, ⟨by repeat (first | (with_reducible first | exact HB.out | apply below_alloc | apply pw_below_drewN | apply below_drew1) | exact HB.out)⟩⟩
          ·rw [if_neg c7] at H
           exact absurd H (by simp)
         ·rw [if_neg c6] at H
          have c6b0 : decide (x6_2 < ((rd_T117 l0 x5_1).f1)) = false := decide_eq_false c6
          clear c6
          have H' := Aside0.mk H
          clear H
          have p102 : 0 ≤ (x5_1 : Int) := of_decide_eq_true (by first | (with_reducible assumption) | assumption)
          have q102 : x5_1 < (l0.length : Int) := of_decide_eq_true (by first | (with_reducible assumption) | assumption)
          obtain ⟨ad102, e102, hx102_0, hx102_1⟩ := at_T117 HR0.out x5_1 p102 q102
          obtain rfl : ad101 = ad102 := (by injection e102)
          replace hx102_0 := (HB.out.cell (World.block_lt_of_cell? w _ hx102_0)).trans hx102_0
          replace hx102_1 := (HB.out.cell (World.block_lt_of_cell? w _ hx102_1)).trans hx102_1
          replace p102 := eq_true p102
          replace q102 := eq_true q102
          go_wp2
          go_roundg k2
          case measure => have := HK1.out; have := HK2.out; omega
          case rel => exact ⟨(x3_2), (x4_2), (wrap64 (x5_1 + 1)), (by first | rfl | (simp; done) | (simp [*]; done)), (by first | rfl | (simp; done) | (simp [*]; done)), H', ⟨by have := HK1.out; have := HK2.out; omega⟩, ⟨by (with_reducible repeat (first | apply Kd.R_alloc | apply Kd.R_drewN | apply Kd.R_drew)); exact HO_3.out⟩, ⟨by repeat (first | (with_reducible first | exact HB.out | apply below_alloc | apply pw_below_drewN | apply below_drew1) | exact HB.out)⟩⟩
        ·rw [if_neg c5] at H
         exact absurd H (by simp)
       ·rw [if_neg c4] at H
        exact absurd H (by simp)
    ·rw [if_neg c3] at H
     exact absurd H (by simp)
   ·rw [if_neg c2] at H
    have c2b0 : decide (x5_1 < (l0.length : Int)) = false := decide_eq_false c2
    clear c2
    obtain rfl := Option.some.inj H
    go_wp2
    go_ret
    exact ⟨_, by first | rfl | (simp [errW_none, errW_some] <;> rfl) | (simp [*, errW_none, errW_some] <;> rfl), by (with_reducible repeat (first | apply Kd.R_alloc | apply Kd.R_drewN | apply Kd.R_drew)); exact HO_3.out, by repeat (first | (with_reducible first | exact HB.out | apply below_alloc | apply pw_below_drewN | apply below_drew1) | exact HB.out)⟩
end Go.Proofs.Ytfbjjbbhnmoolaa.P
namespace Go.Proofs.Ytfbjjbbhnmoolaa.P
open Go.RowKit Go.Proofs.YtfbjjbbhnmoolaaW.PrintWords Go.Proofs.YtfbjjbbhnmoolaaW.PrintLast Go.Proofs.YtfbjjbbhnmoolaaW.PrintMore
abbrev Sp := S86
abbrev Rsp := S117
def wfSp (s : Sp) : Prop := i64 s.f0 ∧ i64 s.f1
def wfSps (l : List Sp) : Prop := ∀ s ∈ l, wfSp s
theorem wfSps_of {l : List Sp} (h : ∀ s ∈ l, wf86 s) : wfSps l := fun s hs => ⟨i64_of (h s hs).1, i64_of (h s hs).2⟩
theorem rdSp_at {l : List Sp} {i : Nat} (h : i < l.length) : rd_T86 l (i : Int) = l[i] := by unfold rd_T86; simp [List.getD, h]
theorem rdRsp_at {l : List Rsp} {i : Nat} (h : i < l.length) : rd_T117 l (i : Int) = l[i] := by unfold rd_T117; simp [List.getD, h]
def toR (s : Sp) : Rsp := ⟨s.f0, s.f1⟩
theorem in_eq (p : Int) : span_in.f p = some (decide (-1048576 ≤ p ∧ p ≤ 1048576)) := by
  unfold span_in.f
  by_cases h : p ≥ -1048576
  · rw [if_pos h]; congr 1; rw [decide_eq_decide]; omega
  · rw [if_neg h, decide_eq_false (by omega)]
def oneRight (first : Bool) (a n : Int) (s : Sp) : Prop :=
  0 ≤ s.f1 ∧ s.f1 ≤ 4096 ∧ s.f0 ≤ 2097152 ∧ (if first = true then -1048576 ≤ s.f0 else 0 ≤ s.f0) ∧ -1048576 ≤ a + s.f0 ∧ a + s.f0 ≤ 1048576 ∧ a + s.f0 + max (s.f1 - 1) 0 ≤ 1048576 ∧ n + s.f1 ≤ 4096
instance (f : Bool) (a n : Int) (s : Sp) : Decidable (oneRight f a n s) := by unfold oneRight; exact inferInstance
def spRight : Bool → Int → Int → List Sp → Bool
  | _, _, _, [] => true
  | f, a, n, s :: r => decide (oneRight f a n s) && spRight false (a + s.f0 + s.f1) (n + s.f1) r
theorem mx_max (a b : Int) : mx a b = max a b := by unfold mx; omega
theorem right_j1 (k : Nat) (a n x0 x1 : Int) (l : List Sp) (L i : Int) (ha : -1048576 ≤ a ∧ a ≤ 1048577) (hn : 0 ≤ n ∧ n ≤ 4096) (h0 : -1048576 ≤ x0 ∧ x0 ≤ 2097152) (h1 : 0 ≤ x1 ∧ x1 ≤ 4096) :
    span_right.j1 (k + 1) a n l L i false x0 x1 = if -1048576 ≤ a + x0 ∧ a + x0 ≤ 1048576 ∧ a + x0 + max (x1 - 1) 0 ≤ 1048576 ∧ n + x1 ≤ 4096 then span_right.l0 k (a + x0 + x1) (n + x1) l L (wrap64 (i + 1)) else some false := by
  simp only [span_right.j1]
  rw [if_neg (by decide), wrap_id (x := a + x0) (by omega) (by omega), in_eq]
  simp only [Option.bind_some]
  by_cases c1 : -1048576 ≤ a + x0 ∧ a + x0 ≤ 1048576
  · rw [if_pos (by simpa using c1), wrap_id (x := x1 - 1) (by omega) (by omega), mx_max, wrap_id (x := a + x0 + max (x1 - 1) 0) (by omega) (by omega), in_eq]
    simp only [Option.bind_some]
    by_cases c2 : a + x0 + max (x1 - 1) 0 ≤ 1048576
    · rw [if_pos (by simp; omega), wrap_id (x := n + x1) (by omega) (by omega)]
      by_cases c3 : n + x1 ≤ 4096
      · rw [if_neg (by omega), if_pos ⟨c1.1, c1.2, c2, c3⟩, wrap_id (x := a + x0 + x1) (by omega) (by omega)]
      · rw [if_pos (by omega), if_neg (by omega)]
    · rw [if_neg (by simp; omega), if_neg (by omega)]
  · rw [if_neg (by simpa using c1), if_neg (by omega)]
theorem right_loop (l : List Sp) (hw : wfSps l) (hm : l.length ≤ 4611686018427387904) : ∀ (d k i : Nat) (a n : Int), l.length - i = d → 2 * d < k → i ≤ l.length → -1048576 ≤ a ∧ a ≤ 1048577 → 0 ≤ n ∧ n ≤ 4096 →
    span_right.l0 k a n l (l.length : Int) (i : Int) = some (spRight (decide (i = 0)) a n (l.drop i)) := by
  intro d
  induction d with
  | zero =>
    intro k i a n hd hk hi ha hn
    obtain ⟨k, rfl⟩ : ∃ m, k = m + 1 := ⟨k - 1, by omega⟩
    simp only [span_right.l0]
    rw [if_neg (by omega), drop_end (by omega)]; rfl
  | succ d ih =>
    intro k i a n hd hk hi ha hn
    obtain ⟨k, rfl⟩ : ∃ m, k = m + 2 := ⟨k - 2, by omega⟩
    have hlt : i < l.length := by omega
    have hs := hw _ (List.getElem_mem hlt)
    simp only [span_right.l0]
    rw [if_pos (by omega), if_pos (by omega), if_pos (by omega), rdSp_at hlt, drop_at hlt]
    generalize l[i] = s at hs
    have hbad : ¬ oneRight (decide (i = 0)) a n s → some false = some (spRight (decide (i = 0)) a n (s :: l.drop (i + 1))) := fun h => by simp only [spRight, decide_eq_false h, Bool.false_and]
    have hf : ∀ L' : Int, span_right.j1 (k + 1) a n l (l.length : Int) (i : Int) true s.f0 s.f1 = some false := fun _ => by simp only [span_right.j1]; simp
    have hf := hf 0
    have hgo : (-1048576 ≤ s.f0 ∧ s.f0 ≤ 2097152) → (0 ≤ s.f1 ∧ s.f1 ≤ 4096) → (if decide (i = 0) = true then -1048576 ≤ s.f0 else 0 ≤ s.f0) → span_right.j1 (k + 1) a n l (l.length : Int) (i : Int) false s.f0 s.f1 = some (spRight (decide (i = 0)) a n (s :: l.drop (i + 1))) := by
      intro h0 h1 h2
      rw [right_j1 k a n s.f0 s.f1 l _ _ ha hn h0 h1]
      by_cases c : -1048576 ≤ a + s.f0 ∧ a + s.f0 ≤ 1048576 ∧ a + s.f0 + max (s.f1 - 1) 0 ≤ 1048576 ∧ n + s.f1 ≤ 4096
      · rw [if_pos c, wrap_succ (by omega), ih k (i + 1) _ _ (by omega) (by omega) (by omega) (by omega) (by omega)]
        have : oneRight (decide (i = 0)) a n s := ⟨h1.1, h1.2, h0.2, h2, c.1, c.2.1, c.2.2.1, c.2.2.2⟩
        simp only [spRight, decide_eq_true this, Bool.true_and]
        rfl
      · rw [if_neg c]; exact hbad (fun h => c ⟨h.2.2.2.2.1, h.2.2.2.2.2.1, h.2.2.2.2.2.2.1, h.2.2.2.2.2.2.2⟩)
    by_cases c1 : s.f0 > 2097152
    · rw [if_pos c1, hf]; exact hbad (fun h => by have := h.2.2.1; omega)
    rw [if_neg c1]
    by_cases c2 : s.f1 < 0
    · rw [if_pos c2, hf]; exact hbad (fun h => by have := h.1; omega)
    rw [if_neg c2]
    by_cases c3 : s.f1 > 4096
    · rw [if_pos c3, hf]; exact hbad (fun h => by have := h.2.1; omega)
    rw [if_neg c3]
    by_cases c4 : s.f0 < 0
    · rw [if_pos c4]
      by_cases c5 : i = 0
      · subst c5
        rw [if_neg (by omega), in_eq]
        simp only [Option.bind_some]
        by_cases c6 : -1048576 ≤ s.f0 ∧ s.f0 ≤ 1048576
        · rw [decide_eq_true c6, Bool.not_true]; exact hgo (by omega) (by omega) (by simp; exact c6.1)
        · rw [decide_eq_false c6, Bool.not_false, hf]; exact hbad (fun h => by have h4 := h.2.2.2.1; rw [if_pos (by simp)] at h4; omega)
      · rw [if_pos (by omega), hf]; exact hbad (fun h => by have h4 := h.2.2.2.1; rw [if_neg (by simp [c5])] at h4; omega)
    · rw [if_neg c4]; exact hgo (by omega) (by omega) (by split <;> omega)
theorem right_eq (l : List Sp) (hw : wfSps l) (hm : l.length ≤ 4611686018427387904) (k : Nat) (hk : 2 * l.length < k) : span_right.f k l = some (spRight true 0 0 l) := by
  unfold span_right.f
  have := right_loop l hw hm l.length k 0 0 0 (by omega) hk (by omega) (by omega) (by omega)
  simpa using this
def spCheck (l : List Sp) : Int := if l.length > 1024 then 12 else if spRight true 0 0 l = true then 0 else 20
theorem check_eq (l : List Sp) (hw : wfSps l) (k : Nat) (hk : 2048 < k) : span_Check.f k l = some (spCheck l) := by
  unfold span_Check.f spCheck
  by_cases h : l.length > 1024
  · rw [if_pos (by omega), if_pos h]
  · rw [if_neg (by omega), if_neg h, right_eq l hw (by omega) k (by omega)]
    simp only [Option.bind_some]
    split <;> rfl
end Go.Proofs.Ytfbjjbbhnmoolaa.P
namespace Go.Proofs.Ytfbjjbbhnmoolaa.P
open Go.RowKit Go.Proofs.YtfbjjbbhnmoolaaW.PrintWords Go.Proofs.YtfbjjbbhnmoolaaW.PrintLast Go.Proofs.YtfbjjbbhnmoolaaW.PrintMore
def run : Int → Nat → List Int
  | _, 0 => []
  | a, n + 1 => a :: run (a + 1) n
theorem run_length : ∀ (n : Nat) (a : Int), (run a n).length = n
  | 0, _ => rfl
  | n + 1, a => by show (run (a + 1) n).length + 1 = n + 1; rw [run_length n]
def plN : Int → List Sp → List Int
  | _, [] => []
  | a, s :: r => run (a + s.f0) s.f1.toNat ++ plN (a + s.f0 + s.f1) r
def cntN : List Sp → Int
  | [] => 0
  | s :: r => s.f1 + cntN r
theorem cntN_snoc (s : Sp) : ∀ (l : List Sp), cntN (l ++ [s]) = cntN l + s.f1
  | [] => by simp [cntN]
  | x :: l => by simp [cntN, cntN_snoc s l]; omega
theorem spRight_pos : ∀ (l : List Sp) (f : Bool) (a n : Int), spRight f a n l = true → ∀ s ∈ l, 0 ≤ s.f1 ∧ s.f1 ≤ 4096
  | [], _, _, _, _, s, hs => by simp at hs
  | x :: l, f, a, n, h, s, hs => by
    simp only [spRight, Bool.and_eq_true, decide_eq_true_eq] at h
    rcases List.mem_cons.1 hs with rfl | hs
    · exact ⟨h.1.1, h.1.2.1⟩
    · exact spRight_pos l _ _ _ h.2 s hs
theorem plN_length : ∀ (l : List Sp) (a : Int), (∀ s ∈ l, 0 ≤ s.f1) → ((plN a l).length : Int) = cntN l
  | [], _, _ => rfl
  | s :: l, a, h => by
    have := plN_length l (a + s.f0 + s.f1) (fun x hx => h x (List.mem_cons_of_mem _ hx))
    have := h s (List.mem_cons_self ..)
    simp only [plN, cntN, List.length_append, run_length]
    omega
theorem runAt_run : ∀ (n : Nat) (a : Int), -4611686018427387904 ≤ a → a + n ≤ 4611686018427387904 → runAt a n = run a n ∧ runEnd a n = a + n
  | 0, a, _, _ => ⟨rfl, by simp [runEnd]⟩
  | n + 1, a, h0, h1 => by
    have h2 : a + 1 + (n : Int) ≤ 4611686018427387904 := by omega
    obtain ⟨e1, e2⟩ := runAt_run n (a + 1) (by omega) h2
    simp only [runAt, runEnd, run]
    rw [wrap_id (by omega) (by omega), e1, e2]
    exact ⟨rfl, by omega⟩
theorem placesAt_plN : ∀ (l : List Sp) (f : Bool) (a n : Int), spRight f a n l = true → placesAt a l = plN a l
  | [], _, _, _, _ => rfl
  | s :: l, f, a, n, h => by
    simp only [spRight, Bool.and_eq_true, decide_eq_true_eq] at h
    obtain ⟨h1, h2, h3, h4, h5, h6, h7, h8⟩ := h.1
    have he : ((s.f1.toNat : Nat) : Int) = s.f1 := by omega
    have hb := runAt_run s.f1.toNat (a + s.f0) (by omega) (by omega)
    simp only [placesAt, plN]
    rw [wrap_id (by omega) (by omega), hb.1, hb.2, he, placesAt_plN l _ _ _ h.2]
theorem cntN_le : ∀ (l : List Sp) (f : Bool) (a n : Int), spRight f a n l = true → n ≤ 4096 → n + cntN l ≤ 4096
  | [], _, _, _, _, h => by simp [cntN]; exact h
  | s :: l, f, a, n, h, _ => by
    simp only [spRight, Bool.and_eq_true, decide_eq_true_eq] at h
    have := cntN_le l _ _ _ h.2 h.1.2.2.2.2.2.2.2
    simp only [cntN]; omega
def rises : Int → List Int → Bool
  | _, [] => true
  | e, p :: r => decide (e ≤ p ∧ p ≤ 1048576) && rises (p + 1) r
def canonOne (first : Bool) (s : Sp) : Prop := s.f1 ≠ 0 ∧ (first = false → s.f0 ≠ 0)
instance (f : Bool) (s : Sp) : Decidable (canonOne f s) := by unfold canonOne; exact inferInstance
end Go.Proofs.Ytfbjjbbhnmoolaa.P
namespace Go.Proofs.Ytfbjjbbhnmoolaa.P
open Go.RowKit Go.Proofs.YtfbjjbbhnmoolaaW.PrintWords Go.Proofs.YtfbjjbbhnmoolaaW.PrintLast Go.Proofs.YtfbjjbbhnmoolaaW.PrintMore
def placesRes (l : List Sp) : List Int × Int := if spCheck l = 0 then (plN 0 l, 0) else ([], spCheck l)
theorem spCheck_zero {l : List Sp} (h : spCheck l = 0) : l.length ≤ 1024 ∧ spRight true 0 0 l = true := by
  unfold spCheck at h
  split at h
  · cases h
  · split at h
    · exact ⟨by omega, by assumption⟩
    · cases h
theorem places_len {l : List Sp} (h : spCheck l = 0) : (plN 0 l).length ≤ 4096 := by
  have hr := (spCheck_zero h).2
  have h1 := plN_length l 0 (fun s hs => (spRight_pos l _ _ _ hr s hs).1)
  have h2 := cntN_le l _ _ _ hr (by omega)
  omega
theorem places_eq (l : List Sp) (hw : wfSps l) (k : Nat) (hk : 2048 < k) : span_Places.f k l = some (placesRes l) := by
  unfold span_Places.f placesRes
  rw [check_eq l hw k hk]
  simp only [Option.bind_some]
  by_cases h : spCheck l = 0
  · have h0 := spCheck_zero h
    rw [if_pos h, if_pos h, placesAt_plN l _ _ _ h0.2, if_pos ⟨by omega, by have := places_len h; omega⟩]
  · rw [if_neg h, if_neg h]
theorem rdRsp_map {l : List Sp} {i : Nat} (h : i < l.length) : rd_T117 (l.map toR) (i : Int) = toR l[i] := by rw [rdRsp_at (by simpa using h)]; simp
theorem refPlaces_in (l : List Sp) (i : Nat) (hi : i < l.length) (s : Sp) (hs : l[i] = s) (hf : 0 ≤ s.f1 ∧ s.f1 ≤ 4096) : ∀ (d k j : Nat) (acc : List Int) (a : Int), s.f1.toNat - j = d → j ≤ s.f1.toNat → acc.length + d < 17592186044416 → -4611686018427387904 ≤ a → a + d ≤ 4611686018427387904 →
    tidepoleref06_Places.l1 (k + (d + 1)) (l.map toR) acc a (i : Int) (j : Int) = tidepoleref06_Places.l0 k (l.map toR) (acc ++ run a d) (a + d) (wrap64 ((i : Int) + 1)) := by
  intro d
  induction d with
  | zero =>
    intro k j acc a hd hj hacc ha hb
    have hc : ¬ (j : Int) < (toR s).f1 := by show ¬ (j : Int) < s.f1; omega
    rw [tidepoleref06_Places.l1, List.length_map, if_pos (by omega), if_pos (by omega), rdRsp_map hi, hs, if_neg hc]
    simp [run]
  | succ d ih =>
    intro k j acc a hd hj hacc ha hb
    have hc : (j : Int) < (toR s).f1 := by show (j : Int) < s.f1; omega
    rw [← Nat.add_assoc, tidepoleref06_Places.l1, List.length_map, if_pos (by omega), if_pos (by omega), rdRsp_map hi, hs, if_pos hc, if_pos (by omega), wrap_succ (by omega), wrap_id (x := a + 1) (by omega) (by omega), ih k (j + 1) _ _ (by omega) (by omega) (by simp; omega) (by omega) (by omega)]
    congr 1
    · simp [run]
    · omega
set_option maxRecDepth 100000 in
theorem refPlaces_loop (l : List Sp) (hm : l.length < 17592186044416) : ∀ (d k i : Nat) (acc : List Int) (f : Bool) (a n : Int), l.length - i = d → d * 5000 < k → i ≤ l.length → spRight f a n (l.drop i) = true → n ≤ 4096 → -4611686018427387904 + d * 4194304 ≤ a → a + d * 4194304 ≤ 4611686018427387904 → acc.length + d * 4096 ≤ 8796093022208 →
    tidepoleref06_Places.l0 k (l.map toR) acc a (i : Int) = some (acc ++ plN a (l.drop i)) := by
  intro d
  induction d with
  | zero =>
    intro k i acc f a n hd hk hi hr hn ha hb hacc
    obtain ⟨k, rfl⟩ : ∃ m, k = m + 1 := ⟨k - 1, by omega⟩
    simp only [tidepoleref06_Places.l0, List.length_map]
    rw [if_neg (by omega), drop_end (by omega)]; simp [plN]
  | succ d ih =>
    intro k i acc f a n hd hk hi hr hn ha hb hacc
    have hlt : i < l.length := by omega
    rw [drop_at hlt] at hr ⊢
    simp only [spRight, Bool.and_eq_true, decide_eq_true_eq] at hr
    obtain ⟨h1, h2, h3, h4, h5, h6, h7, h8⟩ := hr.1
    obtain ⟨k, rfl⟩ : ∃ m, k = m + (l[i].f1.toNat + 1) + 1 := ⟨k - (l[i].f1.toNat + 1) - 1, by omega⟩
    rw [tidepoleref06_Places.l0, List.length_map, if_pos (by omega), if_pos (by omega), rdRsp_map hlt]
    have he : ((l[i].f1.toNat : Nat) : Int) = l[i].f1 := by omega
    have := refPlaces_in l i hlt l[i] rfl ⟨h1, h2⟩ l[i].f1.toNat k 0 acc (a + l[i].f0) (by omega) (by omega) (by omega) (by omega) (by omega)
    rw [show (toR l[i]).f0 = l[i].f0 from rfl, wrap_id (x := a + l[i].f0) (by omega) (by omega)]
    rw [show (0 : Int) = ((0 : Nat) : Int) from rfl, this, wrap_succ (by omega), he, ih k (i + 1) _ false _ (n + l[i].f1) (by omega) (by omega) (by omega) hr.2 (by omega) (by omega) (by omega) (by simp [run_length]; omega)]
    simp [plN]
theorem refPlaces_eq (l : List Sp) (h : spCheck l = 0) (k : Nat) (hk : 5120000 < k) : tidepoleref06_Places.f k (l.map toR) = some (plN 0 l) := by
  have h0 := spCheck_zero h
  unfold tidepoleref06_Places.f
  have := refPlaces_loop l (by omega) l.length k 0 [] true 0 0 (by omega) (by omega) (by omega) h0.2 (by omega) (by omega) (by omega) (by simp; omega)
  simpa using this
theorem refCheck_in (l : List Sp) (i : Nat) (x0 x1 : Int) (hf : 0 ≤ x1 ∧ x1 ≤ 4096) (n0 : Int) (hn : 0 ≤ n0 ∧ n0 ≤ 4096) : ∀ (d k j : Nat) (a : Int), x1.toNat - j = d → j ≤ x1.toNat → -1048576 ≤ a → a ≤ 1048577 →
    tidepoleref06_Check.l1 (k + (d + 1)) (l.map toR) a (n0 + j) (i : Int) (j : Int) x0 x1 = if 0 < d ∧ a + d - 1 > 1048576 then some 20 else if n0 + x1 > 4096 then some 20 else tidepoleref06_Check.l0 k (l.map toR) (a + d) (n0 + x1) (wrap64 ((i : Int) + 1)) := by
  intro d
  induction d with
  | zero =>
    intro k j a hd hj ha hb
    have e : n0 + (j : Int) = n0 + x1 := by omega
    rw [tidepoleref06_Check.l1, if_neg (by omega), e]
    simp
  | succ d ih =>
    intro k j a hd hj ha hb
    rw [← Nat.add_assoc, tidepoleref06_Check.l1, if_pos (by omega)]
    by_cases c : a > 1048576
    · rw [if_pos c, if_pos (by omega)]
    · have e : wrap64 (n0 + (j : Int) + 1) = n0 + ((j + 1 : Nat) : Int) := by rw [wrap_id (by omega) (by omega)]; omega
      have e2 : a + ((d + 1 : Nat) : Int) = a + 1 + (d : Int) := by omega
      rw [if_neg c, wrap_succ (by omega), wrap_id (x := a + 1) (by omega) (by omega), e, ih k (j + 1) _ (by omega) (by omega) (by omega) (by omega), e2]
      by_cases c2 : a + 1 + (d : Int) - 1 > 1048576
      · rw [if_pos (show 0 < d + 1 ∧ a + 1 + (d : Int) - 1 > 1048576 from ⟨by omega, c2⟩)]
        by_cases c3 : 0 < d
        · rw [if_pos ⟨c3, c2⟩]
        · omega
      · rw [if_neg (show ¬ (0 < d ∧ a + 1 + (d : Int) - 1 > 1048576) from fun h => c2 h.2), if_neg (show ¬ (0 < d + 1 ∧ a + 1 + (d : Int) - 1 > 1048576) from fun h => c2 h.2)]
theorem refCheck_j1 (k d : Nat) (l : List Sp) (i : Nat) (a n x0 x1 : Int) (ha : -1048576 ≤ a ∧ a ≤ 1048577) (hn : 0 ≤ n ∧ n ≤ 4096) (h0 : -1048576 ≤ x0 ∧ x0 ≤ 2097152) (h1 : 0 ≤ x1 ∧ x1 ≤ 4096) (hd : d = x1.toNat) :
    tidepoleref06_Check.j1 (k + (d + 1) + 1 + 1) (l.map toR) a n (i : Int) false x0 x1 = if -1048576 ≤ a + x0 ∧ a + x0 ≤ 1048576 ∧ a + x0 + max (x1 - 1) 0 ≤ 1048576 ∧ n + x1 ≤ 4096 then tidepoleref06_Check.l0 k (l.map toR) (a + x0 + x1) (n + x1) (wrap64 ((i : Int) + 1)) else some 20 := by
  have e : ((x1.toNat : Nat) : Int) = x1 := by omega
  rw [tidepoleref06_Check.j1, if_neg (by decide), wrap_id (x := a + x0) (by omega) (by omega)]
  by_cases c1 : a + x0 < -1048576
  · rw [if_pos c1, if_neg (by omega), tidepoleref06_Check.j2, if_pos rfl]
  rw [if_neg c1, tidepoleref06_Check.j2]
  by_cases c2 : a + x0 > 1048576
  · rw [if_pos (decide_eq_true c2), if_neg (by omega)]
  rw [if_neg (by simp; omega)]
  have := refCheck_in l i x0 x1 h1 n hn d k 0 (a + x0) (by omega) (by omega) (by omega) (by omega)
  rw [show n + ((0 : Nat) : Int) = n by omega] at this
  rw [show (0 : Int) = ((0 : Nat) : Int) from rfl, this, hd, e]
  by_cases c3 : a + x0 + max (x1 - 1) 0 ≤ 1048576
  · rw [if_neg (by omega)]
    by_cases c4 : n + x1 ≤ 4096
    · rw [if_neg (by omega), if_pos ⟨by omega, by omega, by exact c3, c4⟩]
    · rw [if_pos (by omega), if_neg (fun h => c4 h.2.2.2)]
  · rw [if_pos (by omega), if_neg (fun h => c3 h.2.2.1)]
theorem refCheck_loop (l : List Sp) (hw : wfSps l) (hm : l.length ≤ 4611686018427387904) : ∀ (d k i : Nat) (a n : Int), l.length - i = d → 5000 * d < k → i ≤ l.length → -1048576 ≤ a ∧ a ≤ 1048577 → 0 ≤ n ∧ n ≤ 4096 → (i = 0 → a = 0) →
    tidepoleref06_Check.l0 k (l.map toR) a n (i : Int) = some (if spRight (decide (i = 0)) a n (l.drop i) = true then 0 else 20) := by
  intro d
  induction d with
  | zero =>
    intro k i a n hd hk hi ha hn ha0
    obtain ⟨k, rfl⟩ : ∃ m, k = m + 1 := ⟨k - 1, by omega⟩
    rw [tidepoleref06_Check.l0, List.length_map, if_neg (by omega), drop_end (by omega)]; rfl
  | succ d ih =>
    intro k i a n hd hk hi ha hn ha0
    have hlt : i < l.length := by omega
    obtain ⟨k, rfl⟩ : ∃ m, k = m + 3 := ⟨k - 3, by omega⟩
    have hs := hw _ (List.getElem_mem hlt)
    rw [tidepoleref06_Check.l0, List.length_map, if_pos (by omega), if_pos (by omega), rdRsp_map hlt, drop_at hlt]
    generalize l[i] = s at hs
    rw [show (toR s).f0 = s.f0 from rfl, show (toR s).f1 = s.f1 from rfl]
    have hbad : ¬ oneRight (decide (i = 0)) a n s → (some 20 : Option Int) = some (if spRight (decide (i = 0)) a n (s :: l.drop (i + 1)) = true then 0 else 20) := fun h => by simp only [spRight, decide_eq_false h, Bool.false_and]; rfl
    have hf : ∀ b, b = true → tidepoleref06_Check.j1 (k + 2) (l.map toR) a n (i : Int) b s.f0 s.f1 = some 20 := fun b hb => by subst hb; rw [tidepoleref06_Check.j1, if_pos rfl]
    have hgo : (-1048576 ≤ s.f0 ∧ s.f0 ≤ 2097152) → (0 ≤ s.f1 ∧ s.f1 ≤ 4096) → (if decide (i = 0) = true then -1048576 ≤ s.f0 else 0 ≤ s.f0) → tidepoleref06_Check.j1 (k + 2) (l.map toR) a n (i : Int) false s.f0 s.f1 = some (if spRight (decide (i = 0)) a n (s :: l.drop (i + 1)) = true then 0 else 20) := by
      intro h0 h1 h2
      obtain ⟨q, hq⟩ : ∃ q, k = q + (s.f1.toNat + 1) := ⟨k - (s.f1.toNat + 1), by omega⟩
      rw [show k + 2 = q + (s.f1.toNat + 1) + 1 + 1 by omega, refCheck_j1 q _ l i a n s.f0 s.f1 ha hn h0 h1 rfl]
      by_cases c : -1048576 ≤ a + s.f0 ∧ a + s.f0 ≤ 1048576 ∧ a + s.f0 + max (s.f1 - 1) 0 ≤ 1048576 ∧ n + s.f1 ≤ 4096
      · rw [if_pos c, wrap_succ (by omega), ih q (i + 1) _ _ (by omega) (by omega) (by omega) (by omega) (by omega) (by omega)]
        have : oneRight (decide (i = 0)) a n s := ⟨h1.1, h1.2, h0.2, h2, c.1, c.2.1, c.2.2.1, c.2.2.2⟩
        simp only [spRight, decide_eq_true this, Bool.true_and]
        rfl
      · rw [if_neg c]; exact hbad (fun h => c ⟨h.2.2.2.2.1, h.2.2.2.2.2.1, h.2.2.2.2.2.2.1, h.2.2.2.2.2.2.2⟩)
    have hj : (s.f1 < 0 → (if s.f1 < 0 then tidepoleref06_Check.j1 (k + 2) (l.map toR) a n (i : Int) true s.f0 s.f1 else tidepoleref06_Check.j1 (k + 2) (l.map toR) a n (i : Int) (decide (s.f1 > 4096)) s.f0 s.f1) = some (if spRight (decide (i = 0)) a n (s :: l.drop (i + 1)) = true then 0 else 20)) := by
      intro c; rw [if_pos c, hf _ rfl]; exact hbad (fun h => by have := h.1; omega)
    have hrest : (-1048576 ≤ s.f0 ∧ s.f0 ≤ 2097152) → (if decide (i = 0) = true then -1048576 ≤ s.f0 else 0 ≤ s.f0) → (if s.f1 < 0 then tidepoleref06_Check.j1 (k + 2) (l.map toR) a n (i : Int) true s.f0 s.f1 else tidepoleref06_Check.j1 (k + 2) (l.map toR) a n (i : Int) (decide (s.f1 > 4096)) s.f0 s.f1) = some (if spRight (decide (i = 0)) a n (s :: l.drop (i + 1)) = true then 0 else 20) := by
      intro h0 h2
      by_cases c : s.f1 < 0
      · exact hj c
      rw [if_neg c]
      by_cases c3 : s.f1 > 4096
      · rw [hf _ (decide_eq_true c3)]; exact hbad (fun h => by have := h.2.1; omega)
      · rw [decide_eq_false c3]; exact hgo h0 (by omega) h2
    by_cases c0 : s.f0 < -1048576
    · rw [if_pos c0, hf _ rfl]
      refine hbad (fun h => ?_)
      have h4 := h.2.2.2.1
      split at h4 <;> omega
    rw [if_neg c0]
    by_cases c1 : s.f0 > 2097152
    · rw [if_pos c1, hf _ rfl]; exact hbad (fun h => by have := h.2.2.1; omega)
    rw [if_neg c1]
    by_cases c5 : i = 0
    · subst c5
      rw [if_pos (by omega)]
      by_cases c6 : s.f0 > 1048576
      · rw [if_pos c6, hf _ rfl]
        have := ha0 rfl
        exact hbad (fun h => by have := h.2.2.2.2.2.1; omega)
      · rw [if_neg c6, if_neg (by omega)]
        exact hrest (by omega) (by simp; omega)
    · rw [if_neg (by omega), if_pos (by omega)]
      by_cases c4 : s.f0 < 0
      · rw [if_pos c4, hf _ rfl]; exact hbad (fun h => by have h4 := h.2.2.2.1; rw [if_neg (by simp [c5])] at h4; omega)
      · rw [if_neg c4]; exact hrest (by omega) (by rw [if_neg (by simp [c5])]; omega)
theorem refCheck_eq (l : List Sp) (hw : wfSps l) (k : Nat) (hk : 5120000 < k) : tidepoleref06_Check.f k (l.map toR) = some (spCheck l) := by
  unfold tidepoleref06_Check.f spCheck
  rw [List.length_map]
  by_cases h : l.length > 1024
  · rw [if_pos (by omega), if_pos h]
  · rw [if_neg (by omega), if_neg h]
    have := refCheck_loop l hw (by omega) l.length k 0 0 0 (by omega) (by omega) (by omega) (by omega) (by omega) (fun _ => rfl)
    simpa using this
theorem rises_of_right {l : List Sp} (h : spCheck l = 0) : rises (-1048576) (plN 0 l) = true := by
  have hr := (spCheck_zero h).2
  have hrun : ∀ (m : Nat) (b e : Int), e ≤ b → (m = 0 ∨ b + m - 1 ≤ 1048576) → ∀ r, rises (b + m) r = true ∨ (m = 0 ∧ rises e r = true) → rises e (run b m ++ r) = true := by
    intro m
    induction m with
    | zero =>
      intro b e h1 h2 r h3
      rcases h3 with h3 | h3
      · simp only [run, List.nil_append]
        have hmono : ∀ (r : List Int) (e e' : Int), e ≤ e' → rises e' r = true → rises e r = true := by
          intro r
          cases r with
          | nil => intros; rfl
          | cons x r => intro e e' he h; simp only [rises, Bool.and_eq_true, decide_eq_true_eq] at h ⊢; exact ⟨⟨by omega, h.1.2⟩, h.2⟩
        exact hmono r e _ (by omega) h3
      · exact h3.2
    | succ m ih =>
      intro b e h1 h2 r h3
      simp only [run, List.cons_append, rises, Bool.and_eq_true, decide_eq_true_eq]
      refine ⟨⟨h1, by omega⟩, ih (b + 1) (b + 1) (Int.le_refl _) (by omega) r (Or.inl ?_)⟩
      rcases h3 with h3 | h3
      · rw [show b + 1 + (m : Int) = b + ((m + 1 : Nat) : Int) by omega]; exact h3
      · omega
  have : ∀ (l : List Sp) (f : Bool) (a n e : Int), spRight f a n l = true → (if f = true then a = 0 ∧ e = -1048576 else e ≤ a) → rises e (plN a l) = true := by
    intro l
    induction l with
    | nil => intros; rfl
    | cons s l ih =>
      intro f a n e h he
      simp only [spRight, Bool.and_eq_true, decide_eq_true_eq] at h
      obtain ⟨h1, h2, h3, h4, h5, h6, h7, h8⟩ := h.1
      have ee : ((s.f1.toNat : Nat) : Int) = s.f1 := by omega
      have hle : e ≤ a + s.f0 := by cases f <;> simp at he h4 <;> omega
      simp only [plN]
      refine hrun s.f1.toNat (a + s.f0) e hle (by omega) _ ?_
      rw [ee]
      exact Or.inl (ih false _ _ _ h.2 (by simp))
  exact this l true 0 0 _ hr (by simp)
theorem rises_i64 {l : List Int} (h : rises (-1048576) l = true) : ∀ x ∈ l, -1048576 ≤ x ∧ x ≤ 1048576 := by
  have : ∀ (l : List Int) (e : Int), -1048576 ≤ e → rises e l = true → ∀ x ∈ l, -1048576 ≤ x ∧ x ≤ 1048576 := by
    intro l
    induction l with
    | nil => intro e _ _ x hx; cases hx
    | cons y l ih =>
      intro e he h x hx
      simp only [rises, Bool.and_eq_true, decide_eq_true_eq] at h
      rcases List.mem_cons.1 hx with rfl | hx
      · omega
      · exact ih (y + 1) (by omega) h.2 x hx
  exact this l _ (Int.le_refl _) h
end Go.Proofs.Ytfbjjbbhnmoolaa.P
namespace Go.Proofs.Ytfbjjbbhnmoolaa.P
open Go.RowKit Go.Proofs.YtfbjjbbhnmoolaaW.PrintWords Go.Proofs.YtfbjjbbhnmoolaaW.PrintLast Go.Proofs.YtfbjjbbhnmoolaaW.PrintMore
attribute [local go_sem] max2_int min2_int max_two min_two max_three min_three max_four min_four
def pairs_add.f (a0 : Int) (a1 : Int) : Option (Int × Bool) := some (wrap64 (a0 + a1), ((decide ((wrap64 (a0 + a1)) > a0)) == (decide (a1 > 0))))
set_option maxHeartbeats 8000000 in
set_option maxRecDepth 100000 in
theorem pairs_add.calls (a0 : Int) (a1 : Int) (r1 : Int) (r2 : Bool) (w : World) (h : pairs_add.f a0 a1 = some (r1, r2)) :
  Calls Try.prog 123 #[.int .i64 a0, .int .i64 a1] w fun e w' => e = .returned (.tuple #[.int .i64 r1, .bool r2]) ∧ Drawn0 w w' := by
 have H : (some (wrap64 (a0 + a1), ((decide ((wrap64 (a0 + a1)) > a0)) == (decide (a1 > 0))))) = some (r1, r2) := h
 clear h
 simp only [Option.some.injEq, Prod.mk.injEq] at H
 obtain ⟨rfl, rfl⟩ := H
 go_enter Try.func123, Try.ntmps123
 go_wp2
 go_ret2
 exact ⟨by first | rfl | (simp; done) | (simp [*]; done), by repeat (first | exact Drawn0.refl _ | apply Drawn0.step)⟩
def pairs_Absolute.l0 : Nat → List Int → Int → List Int → Int → Int → Option (List Int × Int)
 | 0, _, _, _, _, _ => none
 | k + 1, x4, x5, x9, x10, x11 => if x11 < x10 then (if 0 ≤ x11 then (if x11 < (x9.length : Int) then ((pairs_add.f x5 (rd x9 x11)).bind fun bt102 => (if bt102.2 = true then (if x4.length < 17592186044416 then (pairs_Absolute.l0 k (x4 ++ [bt102.1]) bt102.1 x9 x10 (wrap64 (x11 + 1))) else (none)) else (some (([] : List Int), 28)))) else (none)) else (none)) else (some (x4, 0))
def pairs_Absolute.f (k : Nat) (l0 : List Int) : Option (List Int × Int) := pairs_Absolute.l0 k ([] : List Int) 0 l0 (l0.length : Int) 0
set_option maxHeartbeats 8000000 in
set_option maxRecDepth 100000 in
theorem pairs_Absolute.calls (k : Nat) (A0 : Option Addr) (c0 : Nat) (l0 : List Int) (r1 : List Int) (r2 : Int) (w : World) (hr0 : Kd.C (Kd.int .i64) w A0 l0.length l0) (hc0 : l0.length ≤ c0) (h : pairs_Absolute.f k l0 = some (r1, r2)) :
  Calls Try.prog 99 #[.slice A0 l0.length c0] w fun e w' => ∃ v0_ : Value, e = .returned (.tuple #[v0_, .int .i64 r2]) ∧ Kd.R (Kd.int .i64) 2 w' w.heap.size (fun _ => True) v0_ r1 ∧ Below w.heap.size w w' := by
 have HR0 := Aside0.mk hr0
 have HC0 := Aside0.mk hc0
 clear hr0 hc0
 have HB := Aside0.mk (Below.refl w.heap.size w)
 have H : (pairs_Absolute.l0 k ([] : List Int) 0 l0 (l0.length : Int) 0) = some (r1, r2) := h
 clear h
 have H' := Aside0.mk H
 clear H
 go_enter Try.func99, Try.ntmps99
 go_wp2
 go_loopg [4, 5, 11] k (fun kq v4 v5 v11 w' => ∃ (x4_1 : List Int) (x5_1 : Int) (x11_1 : Int), v5 = .int .i64 x5_1 ∧ v11 = .int .i64 x11_1 ∧ Aside0 (pairs_Absolute.l0 kq x4_1 x5_1 l0 (l0.length : Int) x11_1 = some (r1, r2)) ∧ Aside0 (kq ≤ k) ∧ Aside0 (Kd.R (Kd.int .i64) 2 w' w.heap.size (fun _ => True) v4 x4_1) ∧ Aside0 (Below w.heap.size w w'))
 case atStart => exact ⟨(([] : List Int)), (0), (0), (by first | rfl | (simp; done) | (simp [*]; done)), (by first | rfl | (simp; done) | (simp [*]; done)), H', ⟨Nat.le_refl _⟩, ⟨by first | exact Kd.R_nil _ _ _ _ _ | exact Kd.N_nil _ _ _ _ _ | exact Kd.V_nil _ _ _ _ _ | exact Kd.Q_nil _ _ _ _ _ | exact Kd.S_nil _ _ _ _ _⟩, ⟨by repeat (first | (with_reducible first | exact HB.out | apply below_alloc | apply pw_below_drewN | apply below_drew1) | exact HB.out)⟩⟩
 case round =>
  clear H'
  obtain ⟨x4_1, x5_1, x11_1, rfl, rfl, HA, HK1, HO_4, HB⟩ := hrel
  cases gk with
  | zero => exact absurd HA.out (by simp [pairs_Absolute.l0])
  | succ k1 =>
   have H := HA.out
   clear HA
   simp only [pairs_Absolute.l0] at H
   by_cases c2 : x11_1 < (l0.length : Int)
   ·rw [if_pos c2] at H
    have c2b0 : decide (x11_1 < (l0.length : Int)) = true := decide_eq_true c2
    clear c2
    by_cases c3 : 0 ≤ x11_1
    ·rw [if_pos c3] at H
     have c3b0 : decide (0 ≤ x11_1) = true := decide_eq_true c3
     clear c3
     by_cases c4 : x11_1 < (l0.length : Int)
     ·rw [if_pos c4] at H
      have c4b0 : decide (x11_1 < (l0.length : Int)) = true := decide_eq_true c4
      clear c4
      replace H := Option.bind_eq_some_iff.mp H
      obtain ⟨⟨t102, t103⟩, A50, H⟩ := H
      replace H : (if t103 = true then (if x4_1.length < 17592186044416 then (pairs_Absolute.l0 k1 (x4_1 ++ [t102]) t102 l0 (l0.length : Int) (wrap64 (x11_1 + 1))) else (none)) else (some (([] : List Int), 28))) = some (r1, r2) := H
      have A5 := Aside0.mk A50
      clear A50
      by_cases c6 : t103 = true
      ·subst c6
       have H1 : (if x4_1.length < 17592186044416 then (pairs_Absolute.l0 k1 (x4_1 ++ [t102]) t102 l0 (l0.length : Int) (wrap64 (x11_1 + 1))) else (none)) = some (r1, r2) := by rw [if_pos rfl] at H; exact H
       clear H
       have H := H1
       clear H1
       by_cases c7 : x4_1.length < 17592186044416
       ·rw [if_pos c7] at H
        have LMc7 := Aside0.mk c7
        clear c7
        obtain ⟨y104, hy104⟩ : ∃ y_ : List Int, y_ = (x4_1 ++ [t102]) := ⟨_, rfl⟩
        replace H : (pairs_Absolute.l0 k1 y104 t102 l0 (l0.length : Int) (wrap64 (x11_1 + 1))) = some (r1, r2) := by first | (rw [hy104]; with_reducible exact H) | (have H2_ := (Option.bind_some _ _).symm.trans H; rw [hy104]; with_reducible exact H2_) | (have H2_ := (Option.bind_some _ _).symm.trans H; with_reducible exact H2_) | with_reducible exact H | (rw [hy104]; exact H) | exact H
        have Ny104 := Aside0.mk hy104
        clear hy104
        have H' := Aside0.mk H
        clear H
        have p101 : 0 ≤ (x11_1 : Int) := of_decide_eq_true (by first | (with_reducible assumption) | assumption)
        have q101 : x11_1 < (l0.length : Int) := of_decide_eq_true (by first | (with_reducible assumption) | assumption)
        obtain ⟨ad101, e101, hx101_0⟩ := Kd.at_int HR0.out x11_1 p101 q101
        cases e101
        replace hx101_0 := (HB.out.cell (World.block_lt_of_cell? w _ hx101_0)).trans hx101_0
        replace p101 := eq_true p101
        replace q101 := eq_true q101
        go_wp2_with (first | ((with_reducible refine gate_callee (f := 123) rfl ?_); refine goesL_ (some 18) rfl rfl Try.func123 (by kernel_rfl) rfl #[.int .i64 x5_1, .int .i64 (rd l0 x11_1)] rfl (by (try simp only [List.map_toArray, List.map_cons, List.map_nil]); first | done | rfl | (simp only [List.length_drop, List.length_take]; rfl)) ?_; (with_reducible refine (pairs_add.calls x5_1 (rd l0 x11_1) t102 true _ A5.out).mono ?_); rintro e w' ⟨rfl, ⟨nd, rfl⟩⟩; refine ⟨_, rfl, ?_⟩; clear A5) | ((with_reducible refine gate_builtin (b := .append) (xs := #[.tmp 23, .tmp 25]) rfl ?_); at_builtin; refine Kd.R_append (Kd.int .i64) (w0 := w) w.heap.size rfl (.tmp 23) (.tmp 25) 24 2 (.int .i64 0) 8 rfl Try.underlying24 info2 rfl (by decide) (by omega) u4 x4_1 t102 [.int .i64 t102] (fun _ => True) (fun _ => False) rfl rfl ?aP (fun _ hk => hk.elim) ?aF ?aO ?aB ?aS ?aL ?_; (case aP => exact rfl); (case aB => exact (by repeat (first | (with_reducible first | exact HB.out | apply below_alloc | apply pw_below_drewN | apply below_drew1) | exact HB.out))); (case aF => exact (fun _ _ => trivial)); (case aO => exact (by (with_reducible repeat (first | apply Kd.R_alloc | apply Kd.R_drewN | apply Kd.R_drew)); exact HO_4.out)); (case aS => exact (below_size (by repeat (first | (with_reducible first | exact HB.out | apply below_alloc | apply pw_below_drewN | apply below_drew1) | exact HB.out)))); (case aL => have := LMc7.out; omega); intro v105 w8 ho hb hg hat; rw [← Ny104.out] at ho; have n0_ := Aside0.mk (hb); have n1_ := Aside0.mk (ho); clear HB; clear HO_4; have HB := n0_; have HO106 := n1_; clear n0_ n1_; clear ho hb hg hat))
        go_roundg k1
        case measure => have := HK1.out; omega
        case rel => exact ⟨(y104), (t102), (wrap64 (x11_1 + 1)), (by first | rfl | (simp; done) | (simp [*]; done)), (by first | rfl | (simp; done) | (simp [*]; done)), H', ⟨by have := HK1.out; omega⟩, ⟨by (with_reducible repeat (first | apply Kd.R_alloc | apply Kd.R_drewN | apply Kd.R_drew)); exact HO106.out⟩, ⟨by repeat (first | (with_reducible first | exact HB.out | apply below_alloc | apply pw_below_drewN | apply below_drew1) | exact HB.out)⟩⟩
       ·rw [if_neg c7] at H
        exact absurd H (by simp)
      ·replace c6 := Bool.eq_false_iff.mpr c6
       subst c6
       have H1 : (some (([] : List Int), 28)) = some (r1, r2) := by rw [if_neg (show ¬ (false = true) by decide)] at H; exact H
       clear H
       have H := H1
       clear H1
       simp only [Option.some.injEq, Prod.mk.injEq] at H
       obtain ⟨rfl, rfl⟩ := H
       have p101 : 0 ≤ (x11_1 : Int) := of_decide_eq_true (by first | (with_reducible assumption) | assumption)
       have q101 : x11_1 < (l0.length : Int) := of_decide_eq_true (by first | (with_reducible assumption) | assumption)
       obtain ⟨ad101, e101, hx101_0⟩ := Kd.at_int HR0.out x11_1 p101 q101
       cases e101
       replace hx101_0 := (HB.out.cell (World.block_lt_of_cell? w _ hx101_0)).trans hx101_0
       replace p101 := eq_true p101
       replace q101 := eq_true q101
       go_wp2_with (first | ((with_reducible refine gate_callee (f := 123) rfl ?_); refine goesL_ (some 18) rfl rfl Try.func123 (by kernel_rfl) rfl #[.int .i64 x5_1, .int .i64 (rd l0 x11_1)] rfl (by (try simp only [List.map_toArray, List.map_cons, List.map_nil]); first | done | rfl | (simp only [List.length_drop, List.length_take]; rfl)) ?_; (with_reducible refine (pairs_add.calls x5_1 (rd l0 x11_1) t102 false _ A5.out).mono ?_); rintro e w' ⟨rfl, ⟨nd, rfl⟩⟩; refine ⟨_, rfl, ?_⟩; clear A5))
       go_ret2
       exact ⟨_, by first | rfl | (simp [errW_none, errW_some] <;> rfl) | (simp [*, errW_none, errW_some] <;> rfl), by first | exact Kd.R_nil _ _ _ _ _ | exact Kd.N_nil _ _ _ _ _ | exact Kd.V_nil _ _ _ _ _ | exact Kd.Q_nil _ _ _ _ _ | exact Kd.S_nil _ _ _ _ _, by repeat (first | (with_reducible first | exact HB.out | apply below_alloc | apply pw_below_drewN | apply below_drew1) | exact HB.out)⟩
     ·rw [if_neg c4] at H
      exact absurd H (by simp)
    ·rw [if_neg c3] at H
     exact absurd H (by simp)
   ·rw [if_neg c2] at H
    have c2b0 : decide (x11_1 < (l0.length : Int)) = false := decide_eq_false c2
    clear c2
    simp only [Option.some.injEq, Prod.mk.injEq] at H
    obtain ⟨rfl, rfl⟩ := H
    go_wp2
    go_ret2
    exact ⟨_, by first | rfl | (simp [errW_none, errW_some] <;> rfl) | (simp [*, errW_none, errW_some] <;> rfl), by (with_reducible repeat (first | apply Kd.R_alloc | apply Kd.R_drewN | apply Kd.R_drew)); exact HO_4.out, by repeat (first | (with_reducible first | exact HB.out | apply below_alloc | apply pw_below_drewN | apply below_drew1) | exact HB.out)⟩
def pairs_Zip_int64.l0 : Nat → List Int → List (S109) → List Int → Int → Int → Option ((List (S109)) × Int)
 | 0, _, _, _, _, _ => none
 | k + 1, x1, x8, x26, x27, x28 => if x28 < x27 then (if 0 ≤ x28 then (if x28 < (x26.length : Int) then (if x28 < (x1.length : Int) then (if x8.length < 8796093022208 then (pairs_Zip_int64.l0 k x1 (x8 ++ [(⟨rd x26 x28, rd x1 x28⟩ : S109)]) x26 x27 (wrap64 (x28 + 1))) else (none)) else (none)) else (none)) else (none)) else (some (x8, 0))
def pairs_Zip_int64.f (k : Nat) (l0 : List (S86)) (l1 : List Int) : Option ((List (S109)) × Int) := (span_Places.f k l0).bind fun bt101 => (if bt101.2 = 0 then (if (bt101.1.length : Int) = (l1.length : Int) then (pairs_Zip_int64.l0 k l1 ([] : List (S109)) bt101.1 (bt101.1.length : Int) 0) else (some (([] : List (S109)), 10))) else (some (([] : List (S109)), bt101.2)))
set_option maxHeartbeats 8000000 in
set_option maxRecDepth 100000 in
theorem pairs_Zip_int64.calls (k : Nat) (A0 : Option Addr) (c0 : Nat) (l0 : List (S86)) (A1 : Option Addr) (c1 : Nat) (l1 : List Int) (r1 : List (S109)) (r2 : Int) (w : World) (hr0 : Kd.C k86 w A0 l0.length l0) (hc0 : l0.length ≤ c0) (hr1 : Kd.C (Kd.int .i64) w A1 l1.length l1) (hc1 : l1.length ≤ c1) (h : pairs_Zip_int64.f k l0 l1 = some (r1, r2)) :
  Calls Try.prog 133 #[.slice A0 l0.length c0, .slice A1 l1.length c1] w fun e w' => ∃ v0_ : Value, e = .returned (.tuple #[v0_, .int .i64 r2]) ∧ Kd.R k109 109 w' w.heap.size (fun _ => True) v0_ r1 ∧ Below w.heap.size w w' := by
 have hu109 := Try.underlying109
 have HR0 := Aside0.mk hr0
 have HC0 := Aside0.mk hc0
 clear hr0 hc0
 have HR1 := Aside0.mk hr1
 have HC1 := Aside0.mk hc1
 clear hr1 hc1
 have HB := Aside0.mk (Below.refl w.heap.size w)
 have H : ((span_Places.f k l0).bind fun bt101 => (if bt101.2 = 0 then (if (bt101.1.length : Int) = (l1.length : Int) then (pairs_Zip_int64.l0 k l1 ([] : List (S109)) bt101.1 (bt101.1.length : Int) 0) else (some (([] : List (S109)), 10))) else (some (([] : List (S109)), bt101.2)))) = some (r1, r2) := h
 clear h
 replace H := Option.bind_eq_some_iff.mp H
 obtain ⟨⟨t101, t102⟩, A30, H⟩ := H
 replace H : (if t102 = 0 then (if (t101.length : Int) = (l1.length : Int) then (pairs_Zip_int64.l0 k l1 ([] : List (S109)) t101 (t101.length : Int) 0) else (some (([] : List (S109)), 10))) else (some (([] : List (S109)), t102))) = some (r1, r2) := H
 have A3 := Aside0.mk A30
 clear A30
 by_cases c4 : t102 = 0
 ·rw [if_pos c4] at H
  have c4b0 : (t102 == 0) = true := beq_iff_eq.mpr c4
  have c4b1 : (t102 != 0) = false := bne_eq_false_iff_eq.mpr c4
  clear c4
  by_cases c5 : (t101.length : Int) = (l1.length : Int)
  ·rw [if_pos c5] at H
   have c5b0 : ((t101.length : Int) == (l1.length : Int)) = true := beq_iff_eq.mpr c5
   have c5b1 : ((t101.length : Int) != (l1.length : Int)) = false := bne_eq_false_iff_eq.mpr c5
   have c5b2 : (t101.length == l1.length) = true := by first | simpa using c5 | (simp at c5 ⊢; omega)
   clear c5
   have H' := Aside0.mk H
   clear H
   go_enter Try.func133, Try.ntmps133
   go_wp2_with (first | ((with_reducible refine gate_callee (f := 152) rfl ?_); refine goesL_ (some 13) rfl rfl Try.func152 (by kernel_rfl) rfl #[.slice A0 l0.length c0] rfl (by (try simp only [List.map_toArray, List.map_cons, List.map_nil]); first | done | rfl | (simp only [List.length_drop, List.length_take]; rfl)) ?_; (with_reducible refine (span_Places.calls k _ _ l0 t101 t102 _ ?side1 ?side2 A3.out).mono ?_); (case side1 => repeat (first | exact HR0.out | (with_reducible refine Kd.C_alloc ?_ _) | (with_reducible refine Kd.C_drewN ?_ _) | (with_reducible refine Kd.C_drew ?_))); (case side2 => exact HC0.out); rintro e w6 ⟨v103, rfl, ho0, hb⟩; refine ⟨_, rfl, ?_⟩; have n0_ := Aside0.mk (Kd.R_lower ho0 (below_size (by repeat (first | (with_reducible first | exact HB.out | apply below_alloc | apply pw_below_drewN | apply below_drew1) | exact HB.out)))); have n1_ := Aside0.mk (below_step (by repeat (first | (with_reducible first | exact HB.out | apply below_alloc | apply pw_below_drewN | apply below_drew1) | exact HB.out)) hb); clear HB; have HO104 := n0_; have HB := n1_; clear n0_ n1_; (try clear hb); (try clear hb2); (try clear hk); (try clear hi); (try clear ho0); clear A3; obtain ⟨Ao7, co7, eo7⟩ := Kd.R_slice HO104.out; subst eo7))
   go_loopg [8, 28] k (fun kq v8 v28 w' => ∃ (x8_1 : List (S109)) (x28_1 : Int), v28 = .int .i64 x28_1 ∧ Aside0 (pairs_Zip_int64.l0 kq l1 x8_1 t101 (t101.length : Int) x28_1 = some (r1, r2)) ∧ Aside0 (kq ≤ k) ∧ Aside0 (Kd.R k109 109 w' w.heap.size (fun _ => True) v8 x8_1) ∧ Aside0 (Kd.R (Kd.int .i64) 3 w' w.heap.size (fun _ => True) (.slice Ao7 t101.length co7) t101) ∧ Aside0 (Below w.heap.size w w'))
   case atStart => exact ⟨(([] : List (S109))), (0), (by first | rfl | (simp; done) | (simp [*]; done)), H', ⟨Nat.le_refl _⟩, ⟨by first | exact Kd.R_nil _ _ _ _ _ | exact Kd.N_nil _ _ _ _ _ | exact Kd.V_nil _ _ _ _ _ | exact Kd.Q_nil _ _ _ _ _ | exact Kd.S_nil _ _ _ _ _⟩, ⟨by (with_reducible repeat (first | apply Kd.R_alloc | apply Kd.R_drewN | apply Kd.R_drew)); exact HO104.out⟩, ⟨by repeat (first | (with_reducible first | exact HB.out | apply below_alloc | apply pw_below_drewN | apply below_drew1) | exact HB.out)⟩⟩
   case round =>
    clear H'
    try clear c1
    try clear p2
    try clear c4
    try clear c4b0
    try clear c4b1
    try clear c5
    try clear c5b0
    try clear c5b1
    try clear c5b2
    obtain ⟨x8_1, x28_1, rfl, HA, HK1, HO_8, HO_26, HB⟩ := hrel
    cases gk with
    | zero => exact absurd HA.out (by simp [pairs_Zip_int64.l0])
    | succ k1 =>
     have H := HA.out
     clear HA
     simp only [pairs_Zip_int64.l0] at H
     by_cases c8 : x28_1 < (t101.length : Int)
     ·rw [if_pos c8] at H
      have c8b0 : decide (x28_1 < (t101.length : Int)) = true := decide_eq_true c8
      clear c8
      by_cases c9 : 0 ≤ x28_1
      ·rw [if_pos c9] at H
       have c9b0 : decide (0 ≤ x28_1) = true := decide_eq_true c9
       clear c9
       by_cases c10 : x28_1 < (t101.length : Int)
       ·rw [if_pos c10] at H
        have c10b0 : decide (x28_1 < (t101.length : Int)) = true := decide_eq_true c10
        clear c10
        by_cases c11 : x28_1 < (l1.length : Int)
        ·rw [if_pos c11] at H
         have c11b0 : decide (x28_1 < (l1.length : Int)) = true := decide_eq_true c11
         clear c11
         by_cases c12 : x8_1.length < 8796093022208
         ·rw [if_pos c12] at H
          have LMc12 := Aside0.mk c12
          clear c12
          obtain ⟨y107, hy107⟩ : ∃ y_ : List (S109), y_ = (x8_1 ++ [(⟨rd t101 x28_1, rd l1 x28_1⟩ : S109)]) := ⟨_, rfl⟩
          replace H : (pairs_Zip_int64.l0 k1 l1 y107 t101 (t101.length : Int) (wrap64 (x28_1 + 1))) = some (r1, r2) := by first | (rw [hy107]; with_reducible exact H) | (have H2_ := (Option.bind_some _ _).symm.trans H; rw [hy107]; with_reducible exact H2_) | (have H2_ := (Option.bind_some _ _).symm.trans H; with_reducible exact H2_) | with_reducible exact H | (rw [hy107]; exact H) | exact H
          have Ny107 := Aside0.mk hy107
          clear hy107
          have H' := Aside0.mk H
          clear H
          have p105 : 0 ≤ (x28_1 : Int) := of_decide_eq_true (by first | (with_reducible assumption) | assumption)
          have q105 : x28_1 < (t101.length : Int) := of_decide_eq_true (by first | (with_reducible assumption) | assumption)
          obtain ⟨ad105, e105, hx105_0⟩ := Kd.at_int (Kd.R_reads' HO_26.out).2.2 x28_1 p105 q105
          cases e105
          replace p105 := eq_true p105
          replace q105 := eq_true q105
          have p106 : 0 ≤ (x28_1 : Int) := of_decide_eq_true (by first | (with_reducible assumption) | assumption)
          have q106 : x28_1 < (l1.length : Int) := of_decide_eq_true (by first | (with_reducible assumption) | assumption)
          obtain ⟨ad106, e106, hx106_0⟩ := Kd.at_int HR1.out x28_1 p106 q106
          cases e106
          replace hx106_0 := (HB.out.cell (World.block_lt_of_cell? w _ hx106_0)).trans hx106_0
          replace p106 := eq_true p106
          replace q106 := eq_true q106
          go_wp2_with (first | ((with_reducible refine gate_builtin (b := .append) (xs := #[.tmp 33, .tmp 40]) rfl ?_); at_builtin; refine Kd.R_append k109 (w0 := w) w.heap.size rfl (.tmp 33) (.tmp 40) 90 109 (.agg #[(.int .i64 0), (.int .i64 0)]) 16 rfl Try.underlying90 info109 rfl (by decide) (by omega) u8 x8_1 (⟨rd t101 x28_1, rd l1 x28_1⟩ : S109) [.int .i64 (rd t101 x28_1), .int .i64 (rd l1 x28_1)] (fun _ => True) (fun _ => False) rfl rfl ?aP (fun _ hk => hk.elim) ?aF ?aO ?aB ?aS ?aL ?_; (case aP => exact k109_mkM _ _ _ (⟨rd t101 x28_1, rd l1 x28_1⟩ : S109)); (case aB => exact (by repeat (first | (with_reducible first | exact HB.out | apply below_alloc | apply pw_below_drewN | apply below_drew1) | exact HB.out))); (case aF => exact (fun _ _ => trivial)); (case aO => exact (by (with_reducible repeat (first | apply Kd.R_alloc | apply Kd.R_drewN | apply Kd.R_drew)); exact HO_8.out)); (case aS => exact (below_size (by repeat (first | (with_reducible first | exact HB.out | apply below_alloc | apply pw_below_drewN | apply below_drew1) | exact HB.out)))); (case aL => have := LMc12.out; omega); intro v108 w13 ho hb hg hat; rw [← Ny107.out] at ho; have n0_ := Aside0.mk (Kd.R_over' (by (with_reducible repeat (first | apply Kd.R_alloc | apply Kd.R_drewN | apply Kd.R_drew)); exact HO_26.out) (Kd.R_typed (by (with_reducible repeat (first | apply Kd.R_alloc | apply Kd.R_drewN | apply Kd.R_drew)); exact HO_8.out)) (by decide) hg); have n1_ := Aside0.mk (hb); have n2_ := Aside0.mk (ho); clear HO_26; clear HB; clear HO_8; have HO_26 := n0_; have HB := n1_; have HO109 := n2_; clear n0_ n1_ n2_; clear ho hb hg hat))
          go_roundg k1
          case measure => have := HK1.out; omega
          case rel => exact ⟨(y107), (wrap64 (x28_1 + 1)), (by first | rfl | (simp; done) | (simp [*]; done)), H', ⟨by have := HK1.out; omega⟩, ⟨by (with_reducible repeat (first | apply Kd.R_alloc | apply Kd.R_drewN | apply Kd.R_drew)); exact HO109.out⟩, ⟨by (with_reducible repeat (first | apply Kd.R_alloc | apply Kd.R_drewN | apply Kd.R_drew)); exact HO_26.out⟩, ⟨by repeat (first | (with_reducible first | exact HB.out | apply below_alloc | apply pw_below_drewN | apply below_drew1) | exact HB.out)⟩⟩
         ·rw [if_neg c12] at H
          exact absurd H (by simp)
        ·rw [if_neg c11] at H
         exact absurd H (by simp)
       ·rw [if_neg c10] at H
        exact absurd H (by simp)
      ·rw [if_neg c9] at H
       exact absurd H (by simp)
     ·rw [if_neg c8] at H
      have c8b0 : decide (x28_1 < (t101.length : Int)) = false := decide_eq_false c8
      clear c8
      simp only [Option.some.injEq, Prod.mk.injEq] at H
      obtain ⟨rfl, rfl⟩ := H
      go_wp2
      go_ret2
      exact ⟨_, by first | rfl | (simp [errW_none, errW_some] <;> rfl) | (simp [*, errW_none, errW_some] <;> rfl), by (with_reducible repeat (first | apply Kd.R_alloc | apply Kd.R_drewN | apply Kd.R_drew)); exact HO_8.out, by repeat (first | (with_reducible first | exact HB.out | apply below_alloc | apply pw_below_drewN | apply below_drew1) | exact HB.out)⟩
  ·rw [if_neg c5] at H
   have c5b0 : ((t101.length : Int) == (l1.length : Int)) = false := beq_eq_false_iff_ne.mpr c5
   have c5b1 : ((t101.length : Int) != (l1.length : Int)) = true := bne_iff_ne.mpr c5
   have c5b2 : (t101.length == l1.length) = false := by first | simpa using c5 | (simp at c5 ⊢; omega)
   simp only [Option.some.injEq, Prod.mk.injEq] at H
   obtain ⟨rfl, rfl⟩ := H
   go_enter Try.func133, Try.ntmps133
   go_wp2_with (first | ((with_reducible refine gate_callee (f := 152) rfl ?_); refine goesL_ (some 13) rfl rfl Try.func152 (by kernel_rfl) rfl #[.slice A0 l0.length c0] rfl (by (try simp only [List.map_toArray, List.map_cons, List.map_nil]); first | done | rfl | (simp only [List.length_drop, List.length_take]; rfl)) ?_; (with_reducible refine (span_Places.calls k _ _ l0 t101 t102 _ ?side1 ?side2 A3.out).mono ?_); (case side1 => repeat (first | exact HR0.out | (with_reducible refine Kd.C_alloc ?_ _) | (with_reducible refine Kd.C_drewN ?_ _) | (with_reducible refine Kd.C_drew ?_))); (case side2 => exact HC0.out); rintro e w14 ⟨v103, rfl, ho0, hb⟩; refine ⟨_, rfl, ?_⟩; have n0_ := Aside0.mk (Kd.R_lower ho0 (below_size (by repeat (first | (with_reducible first | exact HB.out | apply below_alloc | apply pw_below_drewN | apply below_drew1) | exact HB.out)))); have n1_ := Aside0.mk (below_step (by repeat (first | (with_reducible first | exact HB.out | apply below_alloc | apply pw_below_drewN | apply below_drew1) | exact HB.out)) hb); clear HB; have HO104 := n0_; have HB := n1_; clear n0_ n1_; (try clear hb); (try clear hb2); (try clear hk); (try clear hi); (try clear ho0); clear A3; obtain ⟨Ao15, co15, eo15⟩ := Kd.R_slice HO104.out; subst eo15))
   go_ret2
   exact ⟨_, by first | rfl | (simp [errW_none, errW_some] <;> rfl) | (simp [*, errW_none, errW_some] <;> rfl), by first | exact Kd.R_nil _ _ _ _ _ | exact Kd.N_nil _ _ _ _ _ | exact Kd.V_nil _ _ _ _ _ | exact Kd.Q_nil _ _ _ _ _ | exact Kd.S_nil _ _ _ _ _, by repeat (first | (with_reducible first | exact HB.out | apply below_alloc | apply pw_below_drewN | apply below_drew1) | exact HB.out)⟩
 ·rw [if_neg c4] at H
  have c4b0 : (t102 == 0) = false := beq_eq_false_iff_ne.mpr c4
  have c4b1 : (t102 != 0) = true := bne_iff_ne.mpr c4
  simp only [Option.some.injEq, Prod.mk.injEq] at H
  obtain ⟨rfl, rfl⟩ := H
  go_enter Try.func133, Try.ntmps133
  go_wp2_with (first | ((with_reducible refine gate_callee (f := 152) rfl ?_); refine goesL_ (some 13) rfl rfl Try.func152 (by kernel_rfl) rfl #[.slice A0 l0.length c0] rfl (by (try simp only [List.map_toArray, List.map_cons, List.map_nil]); first | done | rfl | (simp only [List.length_drop, List.length_take]; rfl)) ?_; (with_reducible refine (span_Places.calls k _ _ l0 t101 t102 _ ?side1 ?side2 A3.out).mono ?_); (case side1 => repeat (first | exact HR0.out | (with_reducible refine Kd.C_alloc ?_ _) | (with_reducible refine Kd.C_drewN ?_ _) | (with_reducible refine Kd.C_drew ?_))); (case side2 => exact HC0.out); rintro e w16 ⟨v103, rfl, ho0, hb⟩; refine ⟨_, rfl, ?_⟩; have n0_ := Aside0.mk (Kd.R_lower ho0 (below_size (by repeat (first | (with_reducible first | exact HB.out | apply below_alloc | apply pw_below_drewN | apply below_drew1) | exact HB.out)))); have n1_ := Aside0.mk (below_step (by repeat (first | (with_reducible first | exact HB.out | apply below_alloc | apply pw_below_drewN | apply below_drew1) | exact HB.out)) hb); clear HB; have HO104 := n0_; have HB := n1_; clear n0_ n1_; (try clear hb); (try clear hb2); (try clear hk); (try clear hi); (try clear ho0); clear A3))
  go_ret2
  exact ⟨_, by first | rfl | (simp [errW_none, errW_some] <;> rfl) | (simp [*, errW_none, errW_some] <;> rfl), by first | exact Kd.R_nil _ _ _ _ _ | exact Kd.N_nil _ _ _ _ _ | exact Kd.V_nil _ _ _ _ _ | exact Kd.Q_nil _ _ _ _ _ | exact Kd.S_nil _ _ _ _ _, by repeat (first | (with_reducible first | exact HB.out | apply below_alloc | apply pw_below_drewN | apply below_drew1) | exact HB.out)⟩
end Go.Proofs.Ytfbjjbbhnmoolaa.P
namespace Go.Proofs.Ytfbjjbbhnmoolaa.P
open Go.RowKit Go.Proofs.YtfbjjbbhnmoolaaW.PrintWords Go.Proofs.YtfbjjbbhnmoolaaW.PrintLast Go.Proofs.YtfbjjbbhnmoolaaW.PrintMore
abbrev Pr := S109
instance : DecidableEq Pr := fun a b => if h : a.f0 = b.f0 ∧ a.f1 = b.f1 then isTrue (by cases a; cases b; simp only at h; rw [h.1, h.2]) else isFalse (by rintro rfl; exact h ⟨rfl, rfl⟩)
theorem rdPr_at {l : List Pr} {i : Nat} (h : i < l.length) : rd_T109 l (i : Int) = l[i] := by unfold rd_T109; simp [List.getD, h]
def wfPrs (l : List Pr) : Prop := ∀ s ∈ l, i64 s.f0 ∧ i64 s.f1
def zipRes (l : List Sp) (v : List Int) : List Pr × Int := if spCheck l = 0 then (if (plN 0 l).length = v.length then (List.zipWith (fun p x => (⟨p, x⟩ : Pr)) (plN 0 l) v, 0) else ([], 10)) else ([], spCheck l)
theorem zip_loop (ps v : List Int) (hl : ps.length = v.length) (hm : ps.length < 8796093022208) : ∀ (d k i : Nat), ps.length - i = d → d < k → i ≤ ps.length →
    pairs_Zip_int64.l0 k v (List.zipWith (fun p x => (⟨p, x⟩ : Pr)) (ps.take i) (v.take i)) ps (ps.length : Int) (i : Int) = some (List.zipWith (fun p x => (⟨p, x⟩ : Pr)) ps v, 0) := by
  intro d
  induction d with
  | zero =>
    intro k i hd hk hi
    obtain ⟨k, rfl⟩ : ∃ m, k = m + 1 := ⟨k - 1, by omega⟩
    simp only [pairs_Zip_int64.l0]
    rw [if_neg (by omega), List.take_of_length_le (by omega), List.take_of_length_le (by omega)]
  | succ d ih =>
    intro k i hd hk hi
    obtain ⟨k, rfl⟩ : ∃ m, k = m + 1 := ⟨k - 1, by omega⟩
    have hlt : i < ps.length := by omega
    have hlv : i < v.length := by omega
    have hl1 : (List.zipWith (fun p x => (⟨p, x⟩ : Pr)) (ps.take i) (v.take i)).length = i := by simp; omega
    simp only [pairs_Zip_int64.l0]
    rw [if_pos (by omega), if_pos (by omega), if_pos (by omega), if_pos (by omega), hl1, rd_at hlt, rd_at hlv, if_pos (by omega), wrap_succ (by omega), ← ih k (i + 1) (by omega) (by omega) (by omega), take_at hlt, take_at hlv, List.zipWith_append (by simp; omega)]
    rfl
theorem zip_eq (l : List Sp) (v : List Int) (hw : wfSps l) (k : Nat) (hk : 4100 < k) : pairs_Zip_int64.f k l v = some (zipRes l v) := by
  unfold pairs_Zip_int64.f zipRes
  rw [places_eq l hw k (by omega)]
  simp only [Option.bind_some, placesRes]
  by_cases h : spCheck l = 0
  · have hl := places_len h
    rw [if_pos h, if_pos h]
    simp only [if_true]
    by_cases h1 : (plN 0 l).length = v.length
    · rw [if_pos (by omega), if_pos h1]
      exact zip_loop (plN 0 l) v h1 (by omega) (plN 0 l).length k 0 (by omega) (by omega) (by omega)
    · rw [if_neg (by omega), if_neg h1]
  · rw [if_neg h, if_neg h]
    simp only
    rw [if_neg h]
end Go.Proofs.Ytfbjjbbhnmoolaa.P
namespace Go.Proofs.Ytfbjjbbhnmoolaa.P
open Go.RowKit Go.Proofs.YtfbjjbbhnmoolaaW.PrintWords Go.Proofs.YtfbjjbbhnmoolaaW.PrintLast Go.Proofs.YtfbjjbbhnmoolaaW.PrintMore
attribute [local go_sem] max2_int min2_int max_two min_two max_three min_three max_four min_four
def tidepoleref07_Fits.f (a0 : Int) (a1 : Int) : Option (Bool) := if a1 ≥ 0 then (some (decide (a0 ≤ (wrap64 (9223372036854775807 - a1))))) else (some (decide (a0 ≥ (wrap64 ((-9223372036854775808) - a1)))))
set_option maxHeartbeats 8000000 in
set_option maxRecDepth 100000 in
theorem tidepoleref07_Fits.calls (a0 : Int) (a1 : Int) (r : Bool) (w : World) (h : tidepoleref07_Fits.f a0 a1 = some r) :
  Calls Try.prog 96 #[.int .i64 a0, .int .i64 a1] w fun e w' => e = .returned (.bool r) ∧ Drawn0 w w' := by
 have H : (if a1 ≥ 0 then (some (decide (a0 ≤ (wrap64 (9223372036854775807 - a1))))) else (some (decide (a0 ≥ (wrap64 ((-9223372036854775808) - a1)))))) = some r := h
 clear h
 by_cases c3 : a1 ≥ 0
 ·rw [if_pos c3] at H
  have c3b0 : decide (0 ≤ a1) = true := decide_eq_true c3
  clear c3
  obtain rfl := Option.some.inj H
  go_enter Try.func96, Try.ntmps96
  go_wp2
  go_ret
  exact ⟨by first | rfl | (simp; done) | (simp [*]; done), by repeat (first | exact Drawn0.refl _ | apply Drawn0.step)⟩
 ·rw [if_neg c3] at H
  have c3b0 : decide (0 ≤ a1) = false := decide_eq_false c3
  clear c3
  obtain rfl := Option.some.inj H
  go_enter Try.func96, Try.ntmps96
  go_wp2
  go_ret
  exact ⟨by first | rfl | (simp; done) | (simp [*]; done), by repeat (first | exact Drawn0.refl _ | apply Drawn0.step)⟩
def tidepoleref07_Absolute.l0 : Nat → List Int → List Int → Int → Int → Option (List Int × Int)
 | 0, _, _, _, _ => none
 | k + 1, x0, x4, x5, x6 => if x6 < (x0.length : Int) then (if 0 ≤ x6 then ((tidepoleref07_Fits.f x5 (rd x0 x6)).bind fun t102 => (if t102 = true then (if x4.length < 17592186044416 then (tidepoleref07_Absolute.l0 k x0 (x4 ++ [wrap64 (x5 + (rd x0 x6))]) (wrap64 (x5 + (rd x0 x6))) (wrap64 (x6 + 1))) else (none)) else (some (([] : List Int), 1)))) else (none)) else (some (x4, 0))
def tidepoleref07_Absolute.f (k : Nat) (l0 : List Int) : Option (List Int × Int) := tidepoleref07_Absolute.l0 k l0 ([] : List Int) 0 0
set_option maxHeartbeats 8000000 in
set_option maxRecDepth 100000 in
theorem tidepoleref07_Absolute.calls (k : Nat) (A0 : Option Addr) (c0 : Nat) (l0 : List Int) (r1 : List Int) (r2 : Int) (w : World) (hr0 : Kd.C (Kd.int .i64) w A0 l0.length l0) (hc0 : l0.length ≤ c0) (h : tidepoleref07_Absolute.f k l0 = some (r1, r2)) :
  Calls Try.prog 44 #[.slice A0 l0.length c0] w fun e w' => ∃ v0_ : Value, e = .returned (.tuple #[v0_, .int .i64 r2]) ∧ Kd.R (Kd.int .i64) 2 w' w.heap.size (fun _ => True) v0_ r1 ∧ Below w.heap.size w w' := by
 have HR0 := Aside0.mk hr0
 have HC0 := Aside0.mk hc0
 clear hr0 hc0
 have HB := Aside0.mk (Below.refl w.heap.size w)
 have H : (tidepoleref07_Absolute.l0 k l0 ([] : List Int) 0 0) = some (r1, r2) := h
 clear h
 have H' := Aside0.mk H
 clear H
 go_enter Try.func44, Try.ntmps44
 go_wp2
 go_loopg [4, 5, 6] k (fun kq v4 v5 v6 w' => ∃ (x4_1 : List Int) (x5_1 : Int) (x6_1 : Int), v5 = .int .i64 x5_1 ∧ v6 = .int .i64 x6_1 ∧ Aside0 (tidepoleref07_Absolute.l0 kq l0 x4_1 x5_1 x6_1 = some (r1, r2)) ∧ Aside0 (kq ≤ k) ∧ Aside0 (Kd.R (Kd.int .i64) 2 w' w.heap.size (fun _ => True) v4 x4_1) ∧ Aside0 (Below w.heap.size w w'))
 case atStart => exact ⟨(([] : List Int)), (0), (0), (by first | rfl | (simp; done) | (simp [*]; done)), (by first | rfl | (simp; done) | (simp [*]; done)), H', ⟨Nat.le_refl _⟩, ⟨by first | exact Kd.R_nil _ _ _ _ _ | exact Kd.N_nil _ _ _ _ _ | exact Kd.V_nil _ _ _ _ _ | exact Kd.Q_nil _ _ _ _ _ | exact Kd.S_nil _ _ _ _ _⟩, ⟨by repeat (first | (with_reducible first | exact HB.out | apply below_alloc | apply pw_below_drewN | apply below_drew1) | exact HB.out)⟩⟩
 case round =>
  clear H'
  obtain ⟨x4_1, x5_1, x6_1, rfl, rfl, HA, HK1, HO_4, HB⟩ := hrel
  cases gk with
  | zero => exact absurd HA.out (by simp [tidepoleref07_Absolute.l0])
  | succ k1 =>
   have H := HA.out
   clear HA
   simp only [tidepoleref07_Absolute.l0] at H
   by_cases c2 : x6_1 < (l0.length : Int)
   ·rw [if_pos c2] at H
    have c2b0 : decide (x6_1 < (l0.length : Int)) = true := decide_eq_true c2
    clear c2
    by_cases c3 : 0 ≤ x6_1
    ·rw [if_pos c3] at H
     have c3b0 : decide (0 ≤ x6_1) = true := decide_eq_true c3
     clear c3
     replace H := Option.bind_eq_some_iff.mp H
     obtain ⟨t102, A40, H⟩ := H
     replace H : (if t102 = true then (if x4_1.length < 17592186044416 then (tidepoleref07_Absolute.l0 k1 l0 (x4_1 ++ [wrap64 (x5_1 + (rd l0 x6_1))]) (wrap64 (x5_1 + (rd l0 x6_1))) (wrap64 (x6_1 + 1))) else (none)) else (some (([] : List Int), 1))) = some (r1, r2) := H
     have A4 := Aside0.mk A40
     clear A40
     by_cases c5 : t102 = true
     ·subst c5
      have H1 : (if x4_1.length < 17592186044416 then (tidepoleref07_Absolute.l0 k1 l0 (x4_1 ++ [wrap64 (x5_1 + (rd l0 x6_1))]) (wrap64 (x5_1 + (rd l0 x6_1))) (wrap64 (x6_1 + 1))) else (none)) = some (r1, r2) := by rw [if_pos rfl] at H; exact H
      clear H
      have H := H1
      clear H1
      by_cases c6 : x4_1.length < 17592186044416
      ·rw [if_pos c6] at H
       have LMc6 := Aside0.mk c6
       clear c6
       obtain ⟨y104, hy104⟩ : ∃ y_ : List Int, y_ = (x4_1 ++ [wrap64 (x5_1 + (rd l0 x6_1))]) := ⟨_, rfl⟩
       replace H : (tidepoleref07_Absolute.l0 k1 l0 y104 (wrap64 (x5_1 + (rd l0 x6_1))) (wrap64 (x6_1 + 1))) = some (r1, r2) := by first | (rw [hy104]; with_reducible exact H) | (have H2_ := (Option.bind_some _ _).symm.trans H; rw [hy104]; with_reducible exact H2_) | (have H2_ := (Option.bind_some _ _).symm.trans H; with_reducible exact H2_) | with_reducible exact H | (rw [hy104]; exact H) | exact H
       have Ny104 := Aside0.mk hy104
       clear hy104
       have H' := Aside0.mk H
       clear H
       have p101 : 0 ≤ (x6_1 : Int) := of_decide_eq_true (by first | (with_reducible assumption) | assumption)
       have q101 : x6_1 < (l0.length : Int) := of_decide_eq_true (by first | (with_reducible assumption) | assumption)
       obtain ⟨ad101, e101, hx101_0⟩ := Kd.at_int HR0.out x6_1 p101 q101
       cases e101
       replace hx101_0 := (HB.out.cell (World.block_lt_of_cell? w _ hx101_0)).trans hx101_0
       replace p101 := eq_true p101
       replace q101 := eq_true q101
       go_wp2_with (first | ((with_reducible refine gate_callee (f := 96) rfl ?_); refine goesL_ (some 18) rfl rfl Try.func96 (by kernel_rfl) rfl #[.int .i64 x5_1, .int .i64 (rd l0 x6_1)] rfl (by (try simp only [List.map_toArray, List.map_cons, List.map_nil]); first | done | rfl | (simp only [List.length_drop, List.length_take]; rfl)) ?_; (with_reducible refine (tidepoleref07_Fits.calls x5_1 (rd l0 x6_1) true _ A4.out).mono ?_); rintro e w' ⟨rfl, ⟨nd, rfl⟩⟩; refine ⟨_, rfl, ?_⟩; clear A4; have p103 : 0 ≤ (x6_1 : Int) := of_decide_eq_true (by first | (with_reducible assumption) | assumption); have q103 : x6_1 < (l0.length : Int) := of_decide_eq_true (by first | (with_reducible assumption) | assumption); obtain ⟨ad103, e103, hx103_0⟩ := Kd.at_int HR0.out x6_1 p103 q103; obtain rfl : ad101 = ad103 := (by injection e103); replace hx103_0 := (HB.out.cell (World.block_lt_of_cell? w _ hx103_0)).trans hx103_0; replace p103 := eq_true p103; replace q103 := eq_true q103) | ((with_reducible refine gate_builtin (b := .append) (xs := #[.tmp 26, .tmp 28]) rfl ?_); at_builtin; refine Kd.R_append (Kd.int .i64) (w0 := w) w.heap.size rfl (.tmp 26) (.tmp 28) 24 2 (.int .i64 0) 8 rfl Try.underlying24 info2 rfl (by decide) (by omega) u4 x4_1 (wrap64 (x5_1 + (rd l0 x6_1))) [.int .i64 (wrap64 (x5_1 + (rd l0 x6_1)))] (fun _ => True) (fun _ => False) rfl rfl ?aP (fun _ hk => hk.elim) ?aF ?aO ?aB ?aS ?aL ?_; (case aP => exact rfl); (case aB => exact (by repeat (first | (with_reducible first | exact HB.out | apply below_alloc | apply pw_below_drewN | apply below_drew1) | exact HB.out))); (case aF => exact (fun _ _ => trivial)); (case aO => exact (by (with_reducible repeat (first | apply Kd.R_alloc | apply Kd.R_drewN | apply Kd.R_drew)); exact HO_4.out)); (case aS => exact (below_size (by repeat (first | (with_reducible first | exact HB.out | apply below_alloc | apply pw_below_drewN | apply below_drew1) | exact HB.out)))); (case aL => have := LMc6.out; omega); intro v105 w7 ho hb hg hat; rw [← Ny104.out] at ho; have n0_ := Aside0.mk (hb); have n1_ := Aside0.mk (ho); clear HB; clear HO_4; have HB := n0_; have HO106 := n1_; clear n0_ n1_; clear ho hb hg hat))
       go_roundg k1
       case measure => have := HK1.out; omega
       case rel => exact ⟨(y104), (wrap64 (x5_1 + (rd l0 x6_1))), (wrap64 (x6_1 + 1)), (by first | rfl | (simp; done) | (simp [*]; done)), (by first | rfl | (simp; done) | (simp [*]; done)), H', ⟨by have := HK1.out; omega⟩, ⟨by (with_reducible repeat (first | apply Kd.R_alloc | apply Kd.R_drewN | apply Kd.R_drew)); exact HO106.out⟩, ⟨by repeat (first | (with_reducible first | exact HB.out | apply below_alloc | apply pw_below_drewN | apply below_drew1) | exact HB.out)⟩⟩
      ·rw [if_neg c6] at H
       exact absurd H (by simp)
     ·replace c5 := Bool.eq_false_iff.mpr c5
      subst c5
      have H1 : (some (([] : List Int), 1)) = some (r1, r2) := by rw [if_neg (show ¬ (false = true) by decide)] at H; exact H
      clear H
      have H := H1
      clear H1
      simp only [Option.some.injEq, Prod.mk.injEq] at H
      obtain ⟨rfl, rfl⟩ := H
      have p101 : 0 ≤ (x6_1 : Int) := of_decide_eq_true (by first | (with_reducible assumption) | assumption)
      have q101 : x6_1 < (l0.length : Int) := of_decide_eq_true (by first | (with_reducible assumption) | assumption)
      obtain ⟨ad101, e101, hx101_0⟩ := Kd.at_int HR0.out x6_1 p101 q101
      cases e101
      replace hx101_0 := (HB.out.cell (World.block_lt_of_cell? w _ hx101_0)).trans hx101_0
      replace p101 := eq_true p101
      replace q101 := eq_true q101
      go_wp2_with (first | ((with_reducible refine gate_callee (f := 96) rfl ?_); refine goesL_ (some 18) rfl rfl Try.func96 (by kernel_rfl) rfl #[.int .i64 x5_1, .int .i64 (rd l0 x6_1)] rfl (by (try simp only [List.map_toArray, List.map_cons, List.map_nil]); first | done | rfl | (simp only [List.length_drop, List.length_take]; rfl)) ?_; (with_reducible refine (tidepoleref07_Fits.calls x5_1 (rd l0 x6_1) false _ A4.out).mono ?_); rintro e w' ⟨rfl, ⟨nd, rfl⟩⟩; refine ⟨_, rfl, ?_⟩; clear A4))
      go_ret2
      exact ⟨_, by first | rfl | (simp [errW_none, errW_some] <;> rfl) | (simp [*, errW_none, errW_some] <;> rfl), by first | exact Kd.R_nil _ _ _ _ _ | exact Kd.N_nil _ _ _ _ _ | exact Kd.V_nil _ _ _ _ _ | exact Kd.Q_nil _ _ _ _ _ | exact Kd.S_nil _ _ _ _ _, by repeat (first | (with_reducible first | exact HB.out | apply below_alloc | apply pw_below_drewN | apply below_drew1) | exact HB.out)⟩
    ·rw [if_neg c3] at H
     exact absurd H (by simp)
   ·rw [if_neg c2] at H
    have c2b0 : decide (x6_1 < (l0.length : Int)) = false := decide_eq_false c2
    clear c2
    simp only [Option.some.injEq, Prod.mk.injEq] at H
    obtain ⟨rfl, rfl⟩ := H
    go_wp2
    go_ret2
    exact ⟨_, by first | rfl | (simp [errW_none, errW_some] <;> rfl) | (simp [*, errW_none, errW_some] <;> rfl), by (with_reducible repeat (first | apply Kd.R_alloc | apply Kd.R_drewN | apply Kd.R_drew)); exact HO_4.out, by repeat (first | (with_reducible first | exact HB.out | apply below_alloc | apply pw_below_drewN | apply below_drew1) | exact HB.out)⟩
end Go.Proofs.Ytfbjjbbhnmoolaa.P
namespace Go.Proofs.Ytfbjjbbhnmoolaa.P
open Go.RowKit Go.Proofs.YtfbjjbbhnmoolaaW.PrintWords Go.Proofs.YtfbjjbbhnmoolaaW.PrintLast Go.Proofs.YtfbjjbbhnmoolaaW.PrintMore
def sumsFrom : Int → List Int → Option (List Int)
  | _, [] => some []
  | a, d :: r => if i64 (a + d) then (sumsFrom (a + d) r).map (fun o => (a + d) :: o) else none
theorem add_flag {a d : Int} (ha : i64 a) (hd : i64 d) : ((decide ((wrap64 (a + d)) > a)) == (decide (d > 0))) = decide (i64 (a + d)) := by
  unfold i64 at *
  by_cases h : -9223372036854775808 ≤ a + d ∧ a + d ≤ 9223372036854775807
  · rw [decide_eq_true h, wrap_id h.1 h.2]
    by_cases hp : d > 0
    · have : a + d > a := by omega
      simp [hp, this]
    · have : ¬ a + d > a := by omega
      simp [hp, this]
  · rw [decide_eq_false h]
    by_cases hp : d > 0
    · have : ¬ wrap64 (a + d) > a := by unfold wrap64; omega
      simp [hp, this]
    · have : wrap64 (a + d) > a := by unfold wrap64; omega
      simp [hp, this]
theorem absolute_loop (l : List Int) (hw : ∀ x ∈ l, i64 x) (hl : l.length < 17592186044416) : ∀ (d k i : Nat) (acc : List Int) (a : Int), l.length - i = d → d < k → i ≤ l.length → acc.length = i → i64 a →
    pairs_Absolute.l0 k acc a l (l.length : Int) (i : Int) = some (match sumsFrom a (l.drop i) with | some o => (acc ++ o, 0) | none => ([], 28)) := by
  intro d
  induction d with
  | zero =>
    intro k i acc a hd hk hi ha hwa
    obtain ⟨k, rfl⟩ : ∃ m, k = m + 1 := ⟨k - 1, by omega⟩
    simp only [pairs_Absolute.l0]
    rw [if_neg (by omega), drop_end (by omega)]
    simp [sumsFrom]
  | succ d ih =>
    intro k i acc a hd hk hi ha hwa
    obtain ⟨k, rfl⟩ : ∃ m, k = m + 1 := ⟨k - 1, by omega⟩
    have hlt : i < l.length := by omega
    have hwd : i64 l[i] := hw _ (List.getElem_mem hlt)
    simp only [pairs_Absolute.l0]
    rw [if_pos (by omega), if_pos (by omega), if_pos (by omega), rd_at hlt, drop_at hlt]
    simp only [pairs_add.f, Option.bind_some]
    rw [add_flag hwa hwd]
    by_cases hs : i64 (a + l[i])
    · rw [if_pos (by simpa using hs), if_pos (by omega), wrap_of_i64 hs, wrap_succ (by omega), ih k (i + 1) _ _ (by omega) (by omega) (by omega) (by simp [ha]) hs]
      simp only [sumsFrom, if_pos hs]
      cases sumsFrom (a + l[i]) (l.drop (i + 1)) <;> simp
    · rw [if_neg (by simpa using hs)]
      simp only [sumsFrom, if_neg hs]
theorem absolute_eq (l : List Int) (hw : ∀ x ∈ l, i64 x) (hl : l.length < 17592186044416) (k : Nat) (hk : l.length < k) :
    pairs_Absolute.f k l = some (match sumsFrom 0 l with | some o => (o, 0) | none => ([], 28)) := by
  unfold pairs_Absolute.f
  have h := absolute_loop l hw hl l.length k 0 [] 0 (by omega) hk (by omega) rfl (by unfold i64; omega)
  rw [List.drop_zero] at h
  exact h
theorem sumsFrom_length : ∀ (l : List Int) (a : Int) (o : List Int), sumsFrom a l = some o → o.length = l.length
  | [], a, o, h => by simp [sumsFrom] at h; subst h; rfl
  | d :: r, a, o, h => by
    simp only [sumsFrom] at h
    split at h
    · cases h2 : sumsFrom (a + d) r with
      | none => rw [h2] at h; cases h
      | some o2 => rw [h2] at h; simp at h; subst h; simp [sumsFrom_length r _ _ h2]
    · cases h
theorem sumsFrom_i64 : ∀ (l : List Int) (a : Int) (o : List Int), sumsFrom a l = some o → ∀ x ∈ o, i64 x
  | [], a, o, h => by simp [sumsFrom] at h; subst h; simp
  | d :: r, a, o, h => by
    simp only [sumsFrom] at h
    split at h
    · rename_i hs
      cases h2 : sumsFrom (a + d) r with
      | none => rw [h2] at h; cases h
      | some o2 =>
        rw [h2] at h; simp at h; subst h
        intro x hx
        rcases List.mem_cons.1 hx with rfl | hx
        · exact hs
        · exact sumsFrom_i64 r _ _ h2 x hx
    · cases h
theorem fits_eq {a d : Int} (ha : i64 a) (hd : i64 d) : tidepoleref07_Fits.f a d = some (decide (i64 (a + d))) := by
  unfold tidepoleref07_Fits.f
  unfold i64 at ha hd
  by_cases h : d ≥ 0
  · rw [if_pos h, wrap_id (by omega) (by omega)]
    congr 1
    rw [decide_eq_decide]; unfold i64; omega
  · rw [if_neg h, wrap_id (by omega) (by omega)]
    congr 1
    rw [decide_eq_decide]; unfold i64; omega
theorem refAbsolute_loop (l : List Int) (hw : ∀ x ∈ l, i64 x) (hl : l.length < 17592186044416) : ∀ (d k i : Nat) (acc : List Int) (a : Int), l.length - i = d → d < k → i ≤ l.length → acc.length = i → i64 a →
    tidepoleref07_Absolute.l0 k l acc a (i : Int) = some (match sumsFrom a (l.drop i) with | some o => (acc ++ o, 0) | none => ([], 1)) := by
  intro d
  induction d with
  | zero =>
    intro k i acc a hd hk hi ha hwa
    obtain ⟨k, rfl⟩ : ∃ m, k = m + 1 := ⟨k - 1, by omega⟩
    simp only [tidepoleref07_Absolute.l0]
    rw [if_neg (by omega), drop_end (by omega)]
    simp [sumsFrom]
  | succ d ih =>
    intro k i acc a hd hk hi ha hwa
    obtain ⟨k, rfl⟩ : ∃ m, k = m + 1 := ⟨k - 1, by omega⟩
    have hlt : i < l.length := by omega
    have hwd : i64 l[i] := hw _ (List.getElem_mem hlt)
    simp only [tidepoleref07_Absolute.l0]
    rw [if_pos (by omega), if_pos (by omega), rd_at hlt, drop_at hlt, fits_eq hwa hwd]
    simp only [Option.bind_some]
    by_cases hs : i64 (a + l[i])
    · rw [if_pos (by simpa using hs), if_pos (by omega), wrap_of_i64 hs, wrap_succ (by omega), ih k (i + 1) _ _ (by omega) (by omega) (by omega) (by simp [ha]) hs]
      simp only [sumsFrom, if_pos hs]
      cases sumsFrom (a + l[i]) (l.drop (i + 1)) <;> simp
    · rw [if_neg (by simpa using hs)]
      simp only [sumsFrom, if_neg hs]
theorem refAbsolute_eq (l : List Int) (hw : ∀ x ∈ l, i64 x) (hl : l.length < 17592186044416) (k : Nat) (hk : l.length < k) :
    tidepoleref07_Absolute.f k l = some (match sumsFrom 0 l with | some o => (o, 0) | none => ([], 1)) := by
  unfold tidepoleref07_Absolute.f
  have h := refAbsolute_loop l hw hl l.length k 0 [] 0 (by omega) hk (by omega) rfl (by unfold i64; omega)
  rw [List.drop_zero] at h
  exact h
end Go.Proofs.Ytfbjjbbhnmoolaa.P
namespace Go.Proofs.Ytfbjjbbhnmoolaa.P
open Go.RowKit Go.Shelf Go.Proofs.YtfbjjbbhnmoolaaW.PrintWords Go.Proofs.YtfbjjbbhnmoolaaW.PrintLast Go.Proofs.YtfbjjbbhnmoolaaW.PrintMore
def PredN_int64 (g : Nat) (cap : Array Value) (p : Int → Bool) (w : World) : Prop :=
  ∀ (W : World) (x : Int), Below w.heap.size w W → Calls Try.prog g (#[.int .i64 x] ++ cap) W fun e w' => e = .returned (.bool (p x)) ∧ Below W.heap.size W w'
set_option maxHeartbeats 2000000 in
theorem indexFunc_num_int64 (g : Nat) (cap : Array Value) (p : Int → Bool) (A : Option Addr) (c : Nat) (l : List Int) (w : World)
    (hr : Kd.C (Kd.int .i64) w A l.length l) (hc : l.length ≤ c) (hm : l.length ≤ 9223372036854775807) (hp : PredN_int64 g cap p w) (eg : ∀ args w, (callFunc g args).run Try.prog w = .ok (.enter g args) w) :
    Calls Try.prog 151 #[.slice A l.length c, .func (.func g) #[] cap] w fun e w' => e = .returned (.int .i64 (idxP p l)) ∧ Below w.heap.size w w' := by
  have HR := Aside0.mk hr
  have HP := Aside0.mk hp
  clear hr hp
  go_enter Try.func151, Try.ntmps151
  go_wp2
  go_loopg [5, 8] l.length (fun gg _ s8 wr => ∃ kk : Nat, kk ≤ l.length ∧ l.length - kk ≤ gg ∧ s8 = .int .i64 kk ∧ Aside0 (Below w.heap.size w wr) ∧ Aside0 (∀ j (hj : j < kk) (hj2 : j < l.length), p l[j] = false))
  case atStart => exact ⟨0, Nat.zero_le _, by omega, rfl, ⟨Below.refl _ w⟩, ⟨fun j hj => absurd hj (Nat.not_lt_zero _)⟩⟩
  case round =>
    obtain ⟨kk, hkk, hg, rfl, HB, HA⟩ := hrel
    by_cases hlt : kk < l.length
    · have hlti : (kk : Int) < (l.length : Int) := by omega
      obtain ⟨ad, e1, hx0⟩ := Kd.at_int HR.out kk (by omega) (by omega)
      cases e1
      replace hx0 := (HB.out.cell (World.block_lt_of_cell? w _ hx0)).trans hx0
      have hrd : rd l (kk : Int) = l[kk] := by unfold rd; simp [List.getD, hlt]
      rw [hrd, Int.toNat_natCast] at hx0
      have hcall := HP.out wr l[kk] HB.out
      generalize hy : l[kk] = y at hx0 hcall
      have HY := Aside0.mk hy
      clear hy hrd
      cases hq : p y with
      | true =>
        rw [hq] at hcall
        have HQ := Aside0.mk hq
        clear hq
        have HC := Aside0.mk hcall
        clear hcall
        go_wp2_with (go_at_fn g; refine HC.out.mono ?_; rintro e w' ⟨rfl, hb'⟩)
        go_ret
        refine ⟨?_, HB.out.trans (hb'.mono HB.out.size)⟩
        rw [idxP_hit p l kk hlt (by rw [HY.out]; exact HQ.out) (fun j hj => HA.out j hj (by omega))]; rfl
      | false =>
        rw [hq] at hcall
        have HQ := Aside0.mk hq
        clear hq
        have HC := Aside0.mk hcall
        clear hcall
        go_wp2_with (go_at_fn g; refine HC.out.mono ?_; rintro e w' ⟨rfl, hb'⟩)
        go_roundg (l.length - (kk + 1))
        case measure => omega
        case rel =>
          refine ⟨kk + 1, by omega, by omega, by go_num, ⟨HB.out.trans (hb'.mono HB.out.size)⟩, ⟨fun j hj hj2 => ?_⟩⟩
          by_cases e : j = kk
          · subst e
            rw [HY.out]; exact HQ.out
          · exact HA.out j (by omega) hj2
    · have hlti : ¬ (kk : Int) < (l.length : Int) := by omega
      have hk : kk = l.length := by omega
      go_wp2
      go_ret
      refine ⟨?_, HB.out⟩
      rw [idxP_miss p l (fun j hj => HA.out j (by omega) hj)]; rfl
theorem idxP_any_int64 (p : Int → Bool) (l : List Int) : decide (idxP p l ≥ 0) = l.any p := by
  rcases find_idx p l with ⟨h1, h2⟩ | ⟨i, h, h1, h2⟩
  · rw [h1, Bool.eq_iff_iff, decide_eq_true_iff]
    constructor
    · intro h; omega
    · intro h
      obtain ⟨x, hx, hp⟩ := List.any_eq_true.1 h
      rw [List.find?_eq_none] at h2
      exact absurd hp (h2 x hx)
  · rw [h1, Bool.eq_iff_iff, decide_eq_true_iff]
    constructor
    · intro _; exact List.any_eq_true.2 ⟨_, List.getElem_mem h, by have := List.find?_some h2; exact this⟩
    · intro _; omega
set_option maxHeartbeats 2000000 in
theorem containsFunc_num_int64 (g : Nat) (cap : Array Value) (p : Int → Bool) (A : Option Addr) (c : Nat) (l : List Int) (w : World)
    (hr : Kd.C (Kd.int .i64) w A l.length l) (hc : l.length ≤ c) (hm : l.length ≤ 9223372036854775807) (hp : PredN_int64 g cap p w) (eg : ∀ args w, (callFunc g args).run Try.prog w = .ok (.enter g args) w) :
    Calls Try.prog 131 #[.slice A l.length c, .func (.func g) #[] cap] w fun e w' => e = .returned (.bool (l.any p)) ∧ Below w.heap.size w w' := by
  have H := Aside0.mk (indexFunc_num_int64 g cap p A c l w hr hc hm hp eg)
  have HE := Aside0.mk (idxP_any_int64 p l)
  clear hr hp
  generalize idxP p l = ix at H HE
  go_enter Try.func131, Try.ntmps131
  go_wp2_with (go_at_call 151; refine H.out.mono ?_; rintro e w' ⟨rfl, hb'⟩)
  go_ret
  exact ⟨by rw [← HE.out]; rfl, hb'⟩
end Go.Proofs.Ytfbjjbbhnmoolaa.P
namespace Go.Proofs.Ytfbjjbbhnmoolaa.P
open Go.RowKit Go.Shelf Go.Proofs.YtfbjjbbhnmoolaaW.PrintWords Go.Proofs.YtfbjjbbhnmoolaaW.PrintLast Go.Proofs.YtfbjjbbhnmoolaaW.PrintMore
theorem count_loop (l : List Sp) (hm : l.length ≤ 1024) (hp : ∀ s ∈ l, 0 ≤ s.f1 ∧ s.f1 ≤ 4096) : ∀ (d k i : Nat), l.length - i = d → d < k → i ≤ l.length → 0 ≤ cntN (l.take i) → cntN (l.take i) ≤ 4096 * i →
    span_Count.l0 k (cntN (l.take i)) l (l.length : Int) (i : Int) = some (cntN l) := by
  intro d
  induction d with
  | zero =>
    intro k i hd hk hi h0 h1
    obtain ⟨k, rfl⟩ : ∃ m, k = m + 1 := ⟨k - 1, by omega⟩
    rw [span_Count.l0, if_neg (by omega), List.take_of_length_le (by omega)]
  | succ d ih =>
    intro k i hd hk hi h0 h1
    obtain ⟨k, rfl⟩ : ∃ m, k = m + 1 := ⟨k - 1, by omega⟩
    have hlt : i < l.length := by omega
    have hs := hp _ (List.getElem_mem hlt)
    have e : cntN (l.take (i + 1)) = cntN (l.take i) + l[i].f1 := by rw [take_at hlt, cntN_snoc]
    rw [span_Count.l0, if_pos (by omega), if_pos (by omega), if_pos (by omega), rdSp_at hlt, wrap_succ (by omega), wrap_id (by omega) (by omega), ← e]
    exact ih k (i + 1) (by omega) (by omega) (by omega) (by omega) (by omega)
theorem count_eq (l : List Sp) (hw : wfSps l) (k : Nat) (hk : 2048 < k) : span_Count.f k l = some (if spCheck l = 0 then cntN l else 0) := by
  unfold span_Count.f
  rw [check_eq l hw k hk, Option.bind_some]
  by_cases h : spCheck l = 0
  · have h0 := spCheck_zero h
    rw [if_pos h, if_pos h]
    exact count_loop l h0.1 (fun s hs => spRight_pos l _ _ _ h0.2 s hs) l.length k 0 (by omega) (by omega) (by omega) (by simp [cntN]) (by simp [cntN])
  · rw [if_neg h, if_neg h]
def sideRes (l : List Sp) (d : List Int) : List Pr × Int :=
  if spCheck l = 0 then (if cntN l = d.length then (match sumsFrom 0 d with | none => ([], 28) | some c => if c.any (fun x => decide (x < 0)) = true then ([], 22) else (List.zipWith (fun p x => (⟨p, x⟩ : Pr)) (plN 0 l) c, 0)) else ([], 23)) else ([], spCheck l)
instance (l : List Sp) : Decidable (wfSps l) := by unfold wfSps wfSp; exact inferInstance
def i64s (l : List Int) : Prop := ∀ x ∈ l, i64 x
instance (l : List Int) : Decidable (i64s l) := by unfold i64s; exact inferInstance
def hist_side.f (l0 : List Sp) (l1 : List Int) : Option (List Pr × Int) := if wfSps l0 ∧ i64s l1 ∧ l1.length < 4398046511104 then some (sideRes l0 l1) else none
set_option maxRecDepth 100000 in
theorem neg_any (W : World) (x : Int) :
    Calls Try.prog 132 (#[.int .i64 x] ++ #[]) W fun e w' => e = .returned (.bool (decide (x < 0))) ∧ Below W.heap.size W w' := by
  show Calls Try.prog 132 #[.int .i64 x] W _
  go_enter Try.func132, Try.ntmps132
  go_wp2
  go_ret
  exact ⟨rfl, Below.refl _ _⟩
set_option maxHeartbeats 8000000 in
set_option maxRecDepth 100000 in
theorem hist_side.calls (A0 : Option Addr) (c0 : Nat) (l0 : List Sp) (A1 : Option Addr) (c1 : Nat) (l1 : List Int) (r1 : List Pr) (r2 : Int) (w : World) (hr0 : Kd.C k86 w A0 l0.length l0) (hc0 : l0.length ≤ c0) (hr1 : Kd.C (Kd.int .i64) w A1 l1.length l1) (hc1 : l1.length ≤ c1) (h : hist_side.f l0 l1 = some (r1, r2)) :
    Calls Try.prog 107 #[.slice A0 l0.length c0, .slice A1 l1.length c1] w fun e w' => ∃ v0_ : Value, e = .returned (.tuple #[v0_, .int .i64 r2]) ∧ Kd.R k109 109 w' w.heap.size (fun _ => True) v0_ r1 ∧ Below w.heap.size w w' := by
  obtain ⟨⟨hw, hi, hm⟩, h2⟩ := of_ite_some h
  clear h
  obtain ⟨K, hK⟩ : ∃ K, K = l1.length + 5200 := ⟨_, rfl⟩
  have HRA := Aside0.mk (And.intro hr0 hr1)
  have HCA := Aside0.mk (And.intro hc0 hc1)
  have HCk := Aside0.mk (check_eq l0 hw K (by omega))
  have HCt := Aside0.mk (count_eq l0 hw K (by omega))
  have HAb := Aside0.mk (absolute_eq l1 hi (by omega) K (by omega))
  have HW := Aside0.mk hw
  have HM := Aside0.mk (And.intro hm hK)
  have H := Aside0.mk h2
  clear hr0 hr1 hc0 hc1 hw hi h2 hm hK
  unfold sideRes at H
  by_cases he : spCheck l0 = 0
  rotate_left
  · have H := H.out
    rw [if_neg he] at H
    injection H with h4 h5
    subst h4; subst h5
    have he1 : (spCheck l0 == 0) = false := beq_eq_false_iff_ne.2 he
    have he2 : (spCheck l0 != 0) = true := bne_iff_ne.2 he
    clear he
    generalize spCheck l0 = e0 at *
    go_enter Try.func107, Try.ntmps107
    go_wp2_with (go_at_call 104; (with_reducible refine (span_Check.calls K _ _ l0 e0 _ HRA.out.1 HCA.out.1 HCk.out).mono ?_); rintro e w1 ⟨rfl, hb⟩; have HB := Aside0.mk hb; clear hb)
    go_ret2
    exact ⟨_, rfl, Kd.R_nil _ _ _ _ _, HB.out⟩
  · rw [if_pos he] at H
    rw [he] at HCk
    rw [if_pos he] at HCt
    have HP := Aside0.mk he
    clear he
    generalize hn : cntN l0 = n at H HCt
    have HN := Aside0.mk hn
    clear hn
    by_cases hc : n = (l1.length : Int)
    rotate_left
    · have H := H.out
      rw [if_neg hc] at H
      injection H with h4 h5
      subst h4; subst h5
      have hc1 : (n == (l1.length : Int)) = false := beq_eq_false_iff_ne.2 hc
      have hc2 : (n != (l1.length : Int)) = true := bne_iff_ne.2 hc
      clear hc
      go_enter Try.func107, Try.ntmps107
      go_wp2_with (first | (go_at_call 104; (with_reducible refine (span_Check.calls K _ _ l0 0 _ HRA.out.1 HCA.out.1 HCk.out).mono ?_); rintro e w1 ⟨rfl, hb⟩; have HB := Aside0.mk hb; clear hb) | (go_at_call 130; (with_reducible refine (span_Count.calls K _ _ l0 n _ (Kd.C_below HRA.out.1 HB.out) HCA.out.1 HCt.out).mono ?_); rintro e w2 ⟨rfl, hb⟩; have HB2 := Aside0.mk (below_then HB.out HB.out.size hb); clear hb))
      go_ret2
      exact ⟨_, rfl, Kd.R_nil _ _ _ _ _, HB2.out⟩
    · rw [if_pos hc] at H
      have hc1 : (n == (l1.length : Int)) = true := beq_iff_eq.2 hc
      have hc2 : (n != (l1.length : Int)) = false := by rw [bne, hc1]; rfl
      have HNL := Aside0.mk hc
      clear hc
      have HSL := Aside0.mk (sumsFrom_length l1 0)
      cases hs : sumsFrom 0 l1 with
      | none =>
        rw [hs] at H HAb
        have H := H.out
        injection H with h4 h5
        subst h4; subst h5
        clear hs
        obtain ⟨cs, hcs⟩ : ∃ cs : List Int, cs = [] := ⟨_, rfl⟩
        obtain ⟨e3, he3⟩ : ∃ e : Int, e = 28 := ⟨_, rfl⟩
        replace HAb := Aside0.mk (show pairs_Absolute.f K l1 = some (cs, e3) by rw [hcs, he3]; exact HAb.out)
        subst he3
        clear hcs
        go_enter Try.func107, Try.ntmps107
        go_wp2_with (first | (go_at_call 104; (with_reducible refine (span_Check.calls K _ _ l0 0 _ HRA.out.1 HCA.out.1 HCk.out).mono ?_); rintro e w1 ⟨rfl, hb⟩; have HB := Aside0.mk hb; clear hb) | (go_at_call 130; (with_reducible refine (span_Count.calls K _ _ l0 n _ (Kd.C_below HRA.out.1 HB.out) HCA.out.1 HCt.out).mono ?_); rintro e w2 ⟨rfl, hb⟩; have HB2 := Aside0.mk (below_then HB.out HB.out.size hb); clear hb) | (go_at_call 99; (with_reducible refine (pairs_Absolute.calls K _ _ l1 cs _ _ (Kd.C_below HRA.out.2 HB2.out) HCA.out.2 HAb.out).mono ?_); rintro e w3 ⟨v3, rfl, ho3, hb⟩; have HB3 := Aside0.mk (below_then HB2.out HB2.out.size hb); obtain ⟨A3, c3, rfl, hc3, hC3⟩ := Kd.R_reads ho3; have HC3 := Aside0.mk (And.intro hc3 hC3); clear ho3 hC3 hc3 hb))
        go_ret2
        exact ⟨_, rfl, Kd.R_nil _ _ _ _ _, HB3.out⟩
      | some cs =>
        rw [hs] at H HAb
        have hlen := HSL.out cs hs
        have HL := Aside0.mk hlen
        have HL3 := Aside0.mk (show cs.length ≤ 9223372036854775807 by have := HM.out.1; omega)
        clear hs hlen
        obtain ⟨e3, he3⟩ : ∃ e : Int, e = 0 := ⟨_, rfl⟩
        replace HAb := Aside0.mk (show pairs_Absolute.f K l1 = some (cs, e3) by rw [he3]; exact HAb.out)
        subst he3
        cases hany : cs.any (fun x => decide (x < 0)) with
        | true =>
          have H := H.out
          simp only [hany, if_true] at H
          injection H with h4 h5
          subst h4; subst h5
          go_enter Try.func107, Try.ntmps107
          go_wp2_with (first | (go_at_call 104; (with_reducible refine (span_Check.calls K _ _ l0 0 _ HRA.out.1 HCA.out.1 HCk.out).mono ?_); rintro e w1 ⟨rfl, hb⟩; have HB := Aside0.mk hb; clear hb) | (go_at_call 130; (with_reducible refine (span_Count.calls K _ _ l0 n _ (Kd.C_below HRA.out.1 HB.out) HCA.out.1 HCt.out).mono ?_); rintro e w2 ⟨rfl, hb⟩; have HB2 := Aside0.mk (below_then HB.out HB.out.size hb); clear hb) | (go_at_call 99; (with_reducible refine (pairs_Absolute.calls K _ _ l1 cs _ _ (Kd.C_below HRA.out.2 HB2.out) HCA.out.2 HAb.out).mono ?_); rintro e w3 ⟨v3, rfl, ho3, hb⟩; have HB3 := Aside0.mk (below_then HB2.out HB2.out.size hb); obtain ⟨A3, c3, rfl, hc3, hC3⟩ := Kd.R_reads ho3; have HC3 := Aside0.mk (And.intro hc3 hC3); clear ho3 hC3 hc3 hb) | (go_at_call 131; (refine (containsFunc_num_int64 132 #[] (fun x => decide (x < 0)) _ _ cs _ HC3.out.2 HC3.out.1 HL3.out (fun W x _ => neg_any W x) (enters_of Try.func132 (by kernel_rfl) rfl)).mono ?_); rintro e w4 ⟨rfl, hb⟩; rw [hany]; have HB4 := Aside0.mk (below_then HB3.out HB3.out.size hb); have HC4 := Aside0.mk (Kd.C_below HC3.out.2 hb); clear hb))
          go_ret2
          exact ⟨_, rfl, Kd.R_nil _ _ _ _ _, HB4.out⟩
        | false =>
          have H := H.out
          simp only [hany, Bool.false_eq_true, if_false] at H
          injection H with h4 h5
          obtain ⟨zs, hz⟩ : ∃ zs, zs = List.zipWith (fun p x => (⟨p, x⟩ : Pr)) (plN 0 l0) cs := ⟨_, rfl⟩
          have HZ := Aside0.mk (show pairs_Zip_int64.f K l0 cs = some (zs, 0) by
            rw [zip_eq l0 cs HW.out K (by have := HM.out.2; omega)]
            unfold zipRes
            have hpl : (plN 0 l0).length = cs.length := by
              have h1 := plN_length l0 0 (fun s hs => (spRight_pos l0 _ _ _ (spCheck_zero HP.out).2 s hs).1)
              have := HN.out; have := HNL.out; have := HL.out
              omega
            rw [if_pos HP.out, if_pos hpl, hz])
          rw [← hz] at h4
          subst h4; subst h5
          clear hz
          go_enter Try.func107, Try.ntmps107
          go_wp2_with (first | (go_at_call 104; (with_reducible refine (span_Check.calls K _ _ l0 0 _ HRA.out.1 HCA.out.1 HCk.out).mono ?_); rintro e w1 ⟨rfl, hb⟩; have HB := Aside0.mk hb; clear hb) | (go_at_call 130; (with_reducible refine (span_Count.calls K _ _ l0 n _ (Kd.C_below HRA.out.1 HB.out) HCA.out.1 HCt.out).mono ?_); rintro e w2 ⟨rfl, hb⟩; have HB2 := Aside0.mk (below_then HB.out HB.out.size hb); clear hb) | (go_at_call 99; (with_reducible refine (pairs_Absolute.calls K _ _ l1 cs _ _ (Kd.C_below HRA.out.2 HB2.out) HCA.out.2 HAb.out).mono ?_); rintro e w3 ⟨v3, rfl, ho3, hb⟩; have HB3 := Aside0.mk (below_then HB2.out HB2.out.size hb); obtain ⟨A3, c3, rfl, hc3, hC3⟩ := Kd.R_reads ho3; have HC3 := Aside0.mk (And.intro hc3 hC3); clear ho3 hC3 hc3 hb) | (go_at_call 131; (refine (containsFunc_num_int64 132 #[] (fun x => decide (x < 0)) _ _ cs _ HC3.out.2 HC3.out.1 HL3.out (fun W x _ => neg_any W x) (enters_of Try.func132 (by kernel_rfl) rfl)).mono ?_); rintro e w4 ⟨rfl, hb⟩; rw [hany]; have HB4 := Aside0.mk (below_then HB3.out HB3.out.size hb); have HC4 := Aside0.mk (Kd.C_below HC3.out.2 hb); clear hb) | (go_at_call 133; (with_reducible refine (pairs_Zip_int64.calls K _ _ l0 _ _ cs zs 0 _ (Kd.C_below HRA.out.1 HB4.out) HCA.out.1 HC4.out HC3.out.1 HZ.out).mono ?_); rintro e w5 ⟨v5, rfl, ho5, hb⟩; have HB5 := Aside0.mk (below_then HB4.out HB4.out.size hb); have HO5 := Aside0.mk (Kd.R_lower ho5 HB4.out.size); clear ho5 hb))
          go_ret2
          exact ⟨_, rfl, HO5.out, HB5.out⟩
end Go.Proofs.Ytfbjjbbhnmoolaa.P
namespace Go.Proofs.Ytfbjjbbhnmoolaa.P
open Go.RowKit Go.Shelf Go.Proofs.YtfbjjbbhnmoolaaW.PrintWords Go.Proofs.YtfbjjbbhnmoolaaW.PrintLast Go.Proofs.YtfbjjbbhnmoolaaW.PrintMore
theorem add64_run (x y : Int) (hx : 0 ≤ x) (hy : 0 ≤ y) (w : World) : (callFunc 134 #[.int .u64 x, .int .u64 y, .int .u64 0]).run Try.prog w =
    .ok (.value (.tuple #[.int .u64 ((x + y) % 18446744073709551616), .int .u64 ((x + y) / 18446744073709551616)])) w := by
  rw [run_callFunc_extern Try.func134 (by kernel_rfl) (by kernel_rfl) (by kernel_rfl) (e := add64Entry) (by kernel_rfl), run_add64 x y 0 hx hy (by decide) (by decide)]
  simp only [Result.andThen, Int.add_zero]
def sumV (l : List Pr) : Int := (l.map (·.f1)).sum
def sumR (rs : List (List Pr)) : Int := (rs.map sumV).sum
theorem sumV_take {l : List Pr} {i : Nat} (h : i < l.length) : sumV (l.take (i + 1)) = sumV (l.take i) + l[i].f1 := by
  unfold sumV; rw [take_at h, List.map_append, List.sum_append]; simp only [List.map_cons, List.map_nil, List.sum_cons, List.sum_nil, Int.add_zero]
theorem sumR_take {l : List (List Pr)} {i : Nat} (h : i < l.length) : sumR (l.take (i + 1)) = sumR (l.take i) + sumV l[i] := by
  unfold sumR; rw [take_at h, List.map_append, List.sum_append]; simp only [List.map_cons, List.map_nil, List.sum_cons, List.sum_nil, Int.add_zero]
theorem sum_nonneg {l : List Int} (h : ∀ x ∈ l, 0 ≤ x) : 0 ≤ l.sum := by
  induction l with
  | nil => simp
  | cons x l ih => have := ih (fun y hy => h y (List.mem_cons_of_mem _ hy)); have := h x (List.mem_cons_self ..); simp; omega
theorem sumV_nonneg {l : List Pr} (h : ∀ p ∈ l, 0 ≤ p.f1) : 0 ≤ sumV l := sum_nonneg (by intro x hx; obtain ⟨p, hp, rfl⟩ := List.mem_map.1 hx; exact h p hp)
theorem sumV_take_le {l : List Pr} (h : ∀ p ∈ l, 0 ≤ p.f1) (i : Nat) : 0 ≤ sumV (l.take i) ∧ sumV (l.take i) ≤ sumV l := by
  have e : sumV l = sumV (l.take i) + sumV (l.drop i) := by
    have : l = l.take i ++ l.drop i := (List.take_append_drop i l).symm
    conv => lhs; rw [this]
    unfold sumV; rw [List.map_append, List.sum_append]
  have h1 := sumV_nonneg (l := l.take i) (fun p hp => h p (List.mem_of_mem_take hp))
  have h2 := sumV_nonneg (l := l.drop i) (fun p hp => h p (List.mem_of_mem_drop hp))
  omega
theorem sumR_take_le {l : List (List Pr)} (h : ∀ r ∈ l, ∀ p ∈ r, 0 ≤ p.f1) (i : Nat) : 0 ≤ sumR (l.take i) ∧ sumR (l.take i) ≤ sumR l := by
  have hn : ∀ (l : List (List Pr)), (∀ r ∈ l, ∀ p ∈ r, 0 ≤ p.f1) → 0 ≤ sumR l := fun l h => sum_nonneg (by intro x hx; obtain ⟨p, hp, rfl⟩ := List.mem_map.1 hx; exact sumV_nonneg (h p hp))
  have e : sumR l = sumR (l.take i) + sumR (l.drop i) := by
    have : l = l.take i ++ l.drop i := (List.take_append_drop i l).symm
    conv => lhs; rw [this]
    unfold sumR; rw [List.map_append, List.sum_append]
  have h1 := hn (l.take i) (fun p hp => h p (List.mem_of_mem_take hp))
  have h2 := hn (l.drop i) (fun p hp => h p (List.mem_of_mem_drop hp))
  omega
def totalRes (zc : Int) (rows : List (List Pr)) : Int × Bool := if zc + sumR rows ≤ 18446744073709551615 then (zc + sumR rows, true) else (0, false)
def RowsAt (w : World) (B : Nat) (rows : List (List Pr)) : Prop :=
  ∀ i (h : i < rows.length), ∃ A c, w.cell? ⟨B, i, none⟩ = some (.slice A rows[i].length c) ∧ rows[i].length ≤ c ∧ Kd.C k109 w A rows[i].length rows[i]
set_option maxHeartbeats 8000000 in
set_option maxRecDepth 100000 in
theorem hist_total (s z zc ct sm : Int) (a5 a6 a7 a8 : Option Addr) (n5 n6 n7 n8 c5 c6 c7 c8 : Nat) (B cp : Nat) (rows : List (List Pr)) (w : World)
    (hzc : u64 zc) (hp : ∀ r ∈ rows, ∀ p ∈ r, 0 ≤ p.f1 ∧ p.f1 ≤ 9223372036854775807) (hl : ∀ r ∈ rows, r.length ≤ 4611686018427387904) (hl2 : rows.length ≤ 4611686018427387904) (hcp : rows.length ≤ cp) (hr : RowsAt w B rows) :
    Calls Try.prog 108 #[.agg #[.int .i64 s, .int .u64 z, .int .u64 zc, .int .u64 ct, .int .u64 sm, .slice a5 n5 c5, .slice a6 n6 c6, .slice a7 n7 c7, .slice a8 n8 c8], .slice (some ⟨B, 0, none⟩) rows.length cp] w fun e w' => e = .returned (.tuple #[.int .u64 (totalRes zc rows).1, .bool (totalRes zc rows).2]) ∧ Below w.heap.size w w' := by
  have hu := Try.underlying26
  have hpu := Try.underlying109
  have HZ := Aside0.mk hzc
  have HP := Aside0.mk hp
  have HL := Aside0.mk hl
  have HL2 := Aside0.mk (And.intro hl2 hcp)
  have HR := Aside0.mk hr
  have HT := Aside0.mk (fun i => sumR_take_le (l := rows) (fun r hr p hp2 => (hp r hr p hp2).1) i)
  clear hzc hp hl hl2 hcp hr
  go_enter Try.func108, Try.ntmps108
  go_wp2
  go_loopg [6, 16] rows.length (fun gg v6 v16 wr => ∃ i : Nat, v6 = .int .u64 (zc + sumR (rows.take i)) ∧ v16 = .int .i64 (i : Int) ∧ Aside0 (i + gg = rows.length) ∧ Aside0 (Below w.heap.size w wr) ∧ Aside0 (zc + sumR (rows.take i) ≤ 18446744073709551615))
  case atStart => exact ⟨0, by simp [sumR], rfl, ⟨by omega⟩, ⟨below_alloc (Below.refl _ _) _⟩, ⟨by have := HZ.out.2; simpa [sumR] using this⟩⟩
  case round =>
    obtain ⟨i, rfl, rfl, HI, HB, HS⟩ := hrel
    by_cases hlt : i < rows.length
    · have hlti : (i : Int) < (rows.length : Int) := by omega
      have hi0 : (0 : Int) ≤ (i : Int) := by omega
      obtain ⟨A, c, hc, hcl, hC⟩ := HR.out i hlt
      replace hc := (HB.out.cell (World.block_lt_of_cell? w _ hc)).trans hc
      have HC := Aside0.mk (And.intro hcl hC)
      have hmem : rows[i] ∈ rows := List.getElem_mem hlt
      have HP2 := Aside0.mk (And.intro (HP.out _ hmem) (HL.out _ hmem))
      have HSR := Aside0.mk (sumR_take hlt)
      generalize rows[i] = row at hc HC HP2 HSR
      clear hmem hcl hC
      obtain ⟨ko, rfl⟩ : ∃ ko, gk = ko + 1 := ⟨gk - 1, by have := HI.out; omega⟩
      go_wp2
      go_loopg [6, 22] row.length (fun gj v6 v22 wj => ∃ j : Nat, v6 = .int .u64 (zc + sumR (rows.take i) + sumV (row.take j)) ∧ v22 = .int .i64 (j : Int) ∧ Aside0 (j + gj = row.length) ∧ Aside0 (Below w.heap.size w wj) ∧ Aside0 (zc + sumR (rows.take i) + sumV (row.take j) ≤ 18446744073709551615))
      case atStart => exact ⟨0, by simp [sumV], rfl, ⟨by omega⟩, HB, ⟨by have := HS.out; simpa [sumV] using this⟩⟩
      case round =>
        obtain ⟨j, rfl, rfl, HJ, HBj, HSj⟩ := hrel
        by_cases hltj : j < row.length
        · have hltji : (j : Int) < (row.length : Int) := by omega
          have hj0 : (0 : Int) ≤ (j : Int) := by omega
          obtain ⟨k1, rfl⟩ : ∃ k1, gk = k1 + 1 := ⟨gk - 1, by have := HJ.out; omega⟩
          obtain ⟨ad, e1, hx0, hx1⟩ := at_T109 (Kd.C_below HC.out.2 HBj.out) (j : Int) hj0 hltji
          cases e1
          rw [rdPr_at hltj, Int.toNat_natCast] at hx0 hx1
          have hq := HP2.out.1 _ (List.getElem_mem hltj)
          have HV := Aside0.mk (sumV_take hltj)
          have hT := HT.out (i + 1)
          have hTi := HT.out i
          have hV := sumV_take_le (l := row) (fun p hp => (HP2.out.1 p hp).1) (j + 1)
          have hV0 := sumV_take_le (l := row) (fun p hp => (HP2.out.1 p hp).1) j
          have hz := HZ.out
          generalize row[j] = x at hx0 hx1 HV hq
          have hcv : IntKind.u64.wrap x.f1 = x.f1 := by
            have : IntKind.u64.wrap x.f1 = x.f1 % 18446744073709551616 := rfl
            rw [this]; omega
          obtain ⟨acc, hacc⟩ : ∃ acc, acc = zc + sumR (rows.take i) + sumV (row.take j) := ⟨_, rfl⟩
          rw [← hacc]
          have hs := HSj.out
          rw [← hacc] at hs
          have ha0 : 0 ≤ acc := by have := hz.1; omega
          have hadd := fun w => add64_run acc x.f1 ha0 hq.1 w
          by_cases hov : acc + x.f1 ≤ 18446744073709551615
          · have e1 : (acc + x.f1) % 18446744073709551616 = acc + x.f1 := by omega
            have e2 : (acc + x.f1) / 18446744073709551616 = 0 := by omega
            simp only [e1, e2] at hadd
            have HA := Aside0.mk (And.intro hacc hov)
            clear e1 e2 hacc hov ha0 hs hz hV hV0 hT hTi hq
            go_wp2_with (simp only [hcv, hadd])
            go_roundg k1
            case measure => omega
            case rel =>
              refine ⟨j + 1, ?_, by rw [wrap_succ (by have := HP2.out.2; omega)], ⟨by have := HJ.out; omega⟩, ⟨below_alloc HBj.out _⟩, ⟨?_⟩⟩
              · rw [HV.out, HA.out.1]; congr 1; omega
              · have h1 := HA.out.1; have h2 := HA.out.2; have h3 := HV.out; omega
          · have e1 : (acc + x.f1) / 18446744073709551616 = 1 := by omega
            simp only [e1] at hadd
            have HF := Aside0.mk (show totalRes zc rows = (0, false) by
              unfold totalRes
              rw [if_neg]
              have h3 := HV.out
              have h4 := HSR.out
              omega)
            clear e1 hacc hov ha0 hs hz hV hV0 hT hTi hq
            go_wp2_with (simp only [hcv, hadd])
            go_ret2
            exact ⟨by rw [HF.out]; rfl, below_alloc HBj.out _⟩
        · have hltji : ¬ (j : Int) < (row.length : Int) := by omega
          have HE := Aside0.mk (show zc + sumR (rows.take i) + sumV (row.take j) = zc + sumR (rows.take (i + 1)) by rw [HSR.out, List.take_of_length_le (l := row) (i := j) (by omega)]; omega)
          go_wp2
          go_roundg ko
          case measure => omega
          case rel =>
            refine ⟨i + 1, by rw [HE.out], by rw [wrap_succ (by have := HL2.out.1; omega)], ⟨by have := HI.out; omega⟩, ⟨HBj.out⟩, ⟨by rw [← HE.out]; exact HSj.out⟩⟩
    · have hlti : ¬ (i : Int) < (rows.length : Int) := by omega
      have HF := Aside0.mk (show totalRes zc rows = (zc + sumR (rows.take i), true) by
        unfold totalRes
        have := HS.out
        rw [List.take_of_length_le (l := rows) (i := i) (by omega)] at this ⊢
        rw [if_pos this])
      go_wp2
      go_ret2
      exact ⟨by rw [HF.out]; rfl, HB.out⟩
end Go.Proofs.Ytfbjjbbhnmoolaa.P
namespace Go.Proofs.Ytfbjjbbhnmoolaa.P
open Go.RowKit Go.Proofs.YtfbjjbbhnmoolaaW.PrintWords Go.Proofs.YtfbjjbbhnmoolaaW.PrintLast Go.Proofs.YtfbjjbbhnmoolaaW.PrintMore
attribute [local go_sem] max2_int min2_int max_two min_two max_three min_three max_four min_four
def hist_NaN.f (a0 : Int) : Option (Bool) := some (decide ((Go.bits .andNot .u64 a0 9223372036854775808) > 9218868437227405312))
set_option maxHeartbeats 8000000 in
set_option maxRecDepth 100000 in
theorem hist_NaN.calls (a0 : Int) (r : Bool) (w : World) (h : hist_NaN.f a0 = some r) :
  Calls Try.prog 65 #[.int .u64 a0] w fun e w' => e = .returned (.bool r) ∧ Drawn0 w w' := by
 have H : (some (decide ((Go.bits .andNot .u64 a0 9223372036854775808) > 9218868437227405312))) = some r := h
 clear h
 obtain rfl := Option.some.inj H
 go_enter Try.func65, Try.ntmps65
 go_wp2
 go_ret
 exact ⟨by first | rfl | (simp; done) | (simp [*]; done), by repeat (first | exact Drawn0.refl _ | apply Drawn0.step)⟩
def hist_Threshold.f (a0 : Int) : Option (Bool) := some (decide (a0 < 9218868437227405312))
set_option maxHeartbeats 8000000 in
set_option maxRecDepth 100000 in
theorem hist_Threshold.calls (a0 : Int) (r : Bool) (w : World) (h : hist_Threshold.f a0 = some r) :
  Calls Try.prog 66 #[.int .u64 a0] w fun e w' => e = .returned (.bool r) ∧ Drawn0 w w' := by
 have H : (some (decide (a0 < 9218868437227405312))) = some r := h
 clear h
 obtain rfl := Option.some.inj H
 go_enter Try.func66, Try.ntmps66
 go_wp2
 go_ret
 exact ⟨by first | rfl | (simp; done) | (simp [*]; done), by repeat (first | exact Drawn0.refl _ | apply Drawn0.step)⟩
end Go.Proofs.Ytfbjjbbhnmoolaa.P
namespace Go.Proofs.Ytfbjjbbhnmoolaa.P
open Go.RowKit Go.Shelf Go.Proofs.YtfbjjbbhnmoolaaW.PrintWords Go.Proofs.YtfbjjbbhnmoolaaW.PrintLast Go.Proofs.YtfbjjbbhnmoolaaW.PrintMore
def nan (v : Int) : Bool := decide ((Go.bits .andNot .u64 v 9223372036854775808) > 9218868437227405312)
def fits (zc ct sm : Int) (p n : List Pr) : Bool := (totalRes zc [p, n]).2 && decide ((totalRes zc [p, n]).1 ≤ ct) && (decide (¬ (totalRes zc [p, n]).1 < ct) || nan sm)
def openRes (s z zc ct sm : Int) (l5 l6 : List Sp) (l7 l8 : List Int) : List Pr × List Pr × Int :=
  if s < -4 ∨ s > 8 then ([], [], 21) else if ¬ z < 9218868437227405312 then ([], [], 11)
  else if (sideRes l5 l7).2 ≠ 0 then ([], [], (sideRes l5 l7).2) else if (sideRes l6 l8).2 ≠ 0 then ([], [], (sideRes l6 l8).2)
  else if fits zc ct sm (sideRes l5 l7).1 (sideRes l6 l8).1 = true then ((sideRes l5 l7).1, (sideRes l6 l8).1, 0) else ([], [], 22)
def wfHi (s z zc ct sm : Int) (l5 l6 : List Sp) (l7 l8 : List Int) : Prop := i64 s ∧ u64 z ∧ u64 zc ∧ u64 ct ∧ u64 sm ∧ wfSps l5 ∧ wfSps l6 ∧ i64s l7 ∧ i64s l8 ∧ l7.length < 4398046511104 ∧ l8.length < 4398046511104
instance (s z zc ct sm : Int) (l5 l6 : List Sp) (l7 l8 : List Int) : Decidable (wfHi s z zc ct sm l5 l6 l7 l8) := by unfold wfHi; exact inferInstance
def hist_open.f (s z zc ct sm : Int) (l5 l6 : List Sp) (l7 l8 : List Int) : Option (List Pr × List Pr × Int) := if wfHi s z zc ct sm l5 l6 l7 l8 then some (openRes s z zc ct sm l5 l6 l7 l8) else none
theorem sideRes_ok {l : List Sp} {d : List Int} (hd : i64s d) (h : (sideRes l d).2 = 0) : (∀ p ∈ (sideRes l d).1, 0 ≤ p.f1 ∧ p.f1 ≤ 9223372036854775807) ∧ (sideRes l d).1.length ≤ 4096 := by
  unfold sideRes at h ⊢
  by_cases c1 : spCheck l = 0
  rotate_left
  · rw [if_neg c1] at h; exact absurd h c1
  rw [if_pos c1] at h ⊢
  by_cases c2 : cntN l = d.length
  rotate_left
  · rw [if_neg c2] at h; cases h
  rw [if_pos c2] at h ⊢
  cases hs : sumsFrom 0 d with
  | none => rw [hs] at h; cases h
  | some c =>
    rw [hs] at h
    simp only at h ⊢
    by_cases c3 : c.any (fun x => decide (x < 0)) = true
    · rw [if_pos c3] at h; cases h
    rw [if_neg c3]
    have hi := sumsFrom_i64 d 0 c hs
    refine ⟨fun p hp => ?_, by have := places_len c1; simp; omega⟩
    have : p.f1 ∈ c := by
      obtain ⟨i, hi2, rfl⟩ := List.mem_iff_getElem.1 hp
      simp only [List.getElem_zipWith]
      exact List.getElem_mem _
    have h1 := hi _ this
    refine ⟨?_, h1.2⟩
    by_cases hneg : p.f1 < 0
    · exact absurd (List.any_eq_true.2 ⟨_, this, decide_eq_true hneg⟩) c3
    · omega
theorem rowsAt_two {w : World} {b1 b2 : Nat} {ok1 ok2 : Nat → Prop} {A B : Option Addr} {c d : Nat} {p n : List Pr} (h1 : Kd.R k109 109 w b1 ok1 (.slice A p.length c) p) (h2 : Kd.R k109 109 w b2 ok2 (.slice B n.length d) n) :
    RowsAt (w.alloc (.cells #[.slice A p.length c, .slice B n.length d] 90)) w.heap.size [p, n] := by
  have hb := blk_new w (.cells #[.slice A p.length c, .slice B n.length d] 90)
  intro i hi
  match i, hi with
  | 0, _ => exact ⟨A, c, (blk_cell hb 0).trans rfl, (Kd.R_reads' h1).2.1, Kd.C_below (Kd.R_reads' h1).2.2 (below_alloc (Below.refl _ _) _)⟩
  | 1, _ => exact ⟨B, d, (blk_cell hb 1).trans rfl, (Kd.R_reads' h2).2.1, Kd.C_below (Kd.R_reads' h2).2.2 (below_alloc (Below.refl _ _) _)⟩
theorem R_apart_two {w : World} {b1 b2 m b0 : Nat} {v1 v2 : Value} {p n : List Pr} (h1 : Kd.R k109 109 w b1 (fun k => k < m ∧ b0 ≤ k) v1 p) (h2 : Kd.R k109 109 w b2 (fun k => m ≤ k ∧ b0 ≤ k) v2 n) :
    Kd.R k109 109 w b1 (fun k_ => (b0 ≤ k_) ∧ some k_ ≠ v2.ownBlock) v1 p ∧ Kd.R k109 109 w b2 (fun k_ => (b0 ≤ k_) ∧ some k_ ≠ v1.ownBlock) v2 n := by
  refine ⟨Kd.R_mono h1 (fun k hk => ⟨hk.2, fun e => ?_⟩), Kd.R_mono h2 (fun k hk => ⟨hk.2, fun e => ?_⟩)⟩
  · have := h2.1 k e.symm; omega
  · have := h1.1 k e.symm; omega
set_option maxHeartbeats 8000000 in
set_option maxRecDepth 100000 in
theorem hist_open.calls (s z zc ct sm : Int) (A5 : Option Addr) (c5 : Nat) (l5 : List Sp) (A6 : Option Addr) (c6 : Nat) (l6 : List Sp) (A7 : Option Addr) (c7 : Nat) (l7 : List Int) (A8 : Option Addr) (c8 : Nat) (l8 : List Int) (r1 r2 : List Pr) (r3 : Int) (w : World)
    (hr5 : Kd.C k86 w A5 l5.length l5) (hc5 : l5.length ≤ c5) (hr6 : Kd.C k86 w A6 l6.length l6) (hc6 : l6.length ≤ c6) (hr7 : Kd.C (Kd.int .i64) w A7 l7.length l7) (hc7 : l7.length ≤ c7) (hr8 : Kd.C (Kd.int .i64) w A8 l8.length l8) (hc8 : l8.length ≤ c8)
    (h : hist_open.f s z zc ct sm l5 l6 l7 l8 = some (r1, r2, r3)) :
    Calls Try.prog 71 #[.agg #[.int .i64 s, .int .u64 z, .int .u64 zc, .int .u64 ct, .int .u64 sm, .slice A5 l5.length c5, .slice A6 l6.length c6, .slice A7 l7.length c7, .slice A8 l8.length c8]] w fun e w' => ∃ v0_ v1_ : Value, e = .returned (.tuple #[v0_, v1_, .int .i64 r3]) ∧ Kd.R k109 109 w' w.heap.size (fun k_ => (w.heap.size ≤ k_) ∧ some k_ ≠ (v1_ : Value).ownBlock) v0_ r1 ∧ Kd.R k109 109 w' w.heap.size (fun k_ => (w.heap.size ≤ k_) ∧ some k_ ≠ (v0_ : Value).ownBlock) v1_ r2 ∧ Below w.heap.size w w' := by
  obtain ⟨hw, h2⟩ := of_ite_some h
  clear h
  obtain ⟨hs, hz, hzc, hct, hsm, hw5, hw6, hi7, hi8, hm7, hm8⟩ := hw
  have hu := Try.underlying26
  have HRA := Aside0.mk (And.intro hr5 (And.intro hr6 (And.intro hr7 hr8)))
  have HCA := Aside0.mk (And.intro hc5 (And.intro hc6 (And.intro hc7 hc8)))
  have H := Aside0.mk h2
  have hs5 : hist_side.f l5 l7 = some (sideRes l5 l7) := if_pos ⟨hw5, hi7, hm7⟩
  have hs6 : hist_side.f l6 l8 = some (sideRes l6 l8) := if_pos ⟨hw6, hi8, hm8⟩
  have hok5 := sideRes_ok (l := l5) hi7
  have hok6 := sideRes_ok (l := l6) hi8
  clear h2 hr5 hr6 hr7 hr8 hc5 hc6 hc7 hc8 hw5 hw6 hi7 hi8 hm7 hm8
  unfold openRes at H
  generalize sideRes l5 l7 = q5 at H hs5 hok5
  generalize sideRes l6 l8 = q6 at H hs6 hok6
  obtain ⟨p, e5⟩ := q5
  obtain ⟨n, e6⟩ := q6
  simp only at H hok5 hok6
  have HS5 := Aside0.mk hs5
  have HS6 := Aside0.mk hs6
  have HOK := Aside0.mk (And.intro hok5 hok6)
  have HU := Aside0.mk (And.intro hzc (And.intro hct hsm))
  clear hs5 hs6 hok5 hok6 hzc hct hsm hs hz
  by_cases c1 : s < -4
  · have H := H.out
    rw [if_pos (Or.inl c1)] at H
    injection H with h4 h5; injection h5 with h5 h6
    subst h4; subst h5; subst h6
    have c1b : decide (s < -4) = true := decide_eq_true c1
    clear c1
    go_enter Try.func71, Try.ntmps71
    go_wp2
    go_ret3
    exact ⟨_, _, rfl, Kd.R_nil _ _ _ _ _, Kd.R_nil _ _ _ _ _, below_alloc (Below.refl _ _) _⟩
  by_cases c2 : s > 8
  · have H := H.out
    rw [if_pos (Or.inr c2)] at H
    injection H with h4 h5; injection h5 with h5 h6
    subst h4; subst h5; subst h6
    have c1b : decide (s < -4) = false := decide_eq_false c1
    have c2b : decide (8 < s) = true := decide_eq_true c2
    clear c1 c2
    go_enter Try.func71, Try.ntmps71
    go_wp2
    go_ret3
    exact ⟨_, _, rfl, Kd.R_nil _ _ _ _ _, Kd.R_nil _ _ _ _ _, below_alloc (Below.refl _ _) _⟩
  have c1b : decide (s < -4) = false := decide_eq_false c1
  have c2b : decide (8 < s) = false := decide_eq_false c2
  rw [if_neg (by omega)] at H
  clear c1 c2
  obtain ⟨tz, htz⟩ : ∃ b, b = decide (z < 9218868437227405312) := ⟨_, rfl⟩
  have HTh := Aside0.mk (show hist_Threshold.f z = some tz by rw [htz]; rfl)
  by_cases c3 : z < 9218868437227405312
  rotate_left
  · have H := H.out
    rw [if_pos c3] at H
    injection H with h4 h5; injection h5 with h5 h6
    subst h4; subst h5; subst h6
    rw [decide_eq_false c3] at htz
    subst htz
    clear c3
    go_enter Try.func71, Try.ntmps71
    go_wp2_with (first | (go_at_call 66; (with_reducible refine (hist_Threshold.calls z _ _ HTh.out).mono ?_); rintro e w1 ⟨rfl, hb⟩; have HB1 := Aside0.mk (below_then (below_alloc (Below.refl w.heap.size w) (.cells #[.int .i64 s, .int .u64 z, .int .u64 zc, .int .u64 ct, .int .u64 sm, .slice A5 l5.length c5, .slice A6 l6.length c6, .slice A7 l7.length c7, .slice A8 l8.length c8] 26)) (by simp) hb.below); have HX1 := Aside0.mk (blk_below (blk_new w (.cells #[.int .i64 s, .int .u64 z, .int .u64 zc, .int .u64 ct, .int .u64 sm, .slice A5 l5.length c5, .slice A6 l6.length c6, .slice A7 l7.length c7, .slice A8 l8.length c8] 26)) hb.below); have hf := fun i => blk_cell HX1.out i; clear hb))
    go_ret3
    exact ⟨_, _, rfl, Kd.R_nil _ _ _ _ _, Kd.R_nil _ _ _ _ _, HB1.out⟩
  rw [decide_eq_true c3] at htz
  subst htz
  rw [if_neg (by omega)] at H
  clear c3
  by_cases c4 : e5 = 0
  rotate_left
  · have H := H.out
    rw [if_pos c4] at H
    injection H with h4 h5; injection h5 with h5 h6
    subst h4; subst h5; subst h6
    have c4b : (e5 == 0) = false := beq_eq_false_iff_ne.2 c4
    have c4c : (e5 != 0) = true := bne_iff_ne.2 c4
    clear c4
    go_enter Try.func71, Try.ntmps71
    go_wp2_with (first | (go_at_call 66; (with_reducible refine (hist_Threshold.calls z _ _ HTh.out).mono ?_); rintro e w1 ⟨rfl, hb⟩; have HB1 := Aside0.mk (below_then (below_alloc (Below.refl w.heap.size w) (.cells #[.int .i64 s, .int .u64 z, .int .u64 zc, .int .u64 ct, .int .u64 sm, .slice A5 l5.length c5, .slice A6 l6.length c6, .slice A7 l7.length c7, .slice A8 l8.length c8] 26)) (by simp) hb.below); have HX1 := Aside0.mk (blk_below (blk_new w (.cells #[.int .i64 s, .int .u64 z, .int .u64 zc, .int .u64 ct, .int .u64 sm, .slice A5 l5.length c5, .slice A6 l6.length c6, .slice A7 l7.length c7, .slice A8 l8.length c8] 26)) hb.below); have hf := fun i => blk_cell HX1.out i; clear hb) | (go_at_call 107; (with_reducible refine (hist_side.calls _ _ l5 _ _ l7 p _ _ (Kd.C_below HRA.out.1 HB1.out) HCA.out.1 (Kd.C_below HRA.out.2.2.1 HB1.out) HCA.out.2.2.1 HS5.out).mono ?_); rintro e w2 ⟨v2, rfl, ho2, hb⟩; have HB2 := Aside0.mk (below_then HB1.out HB1.out.size hb); have HX2 := Aside0.mk (blk_below HX1.out hb); have hf2 := fun i => blk_cell HX2.out i; have HO2 := Aside0.mk (Kd.R_mono (ok' := fun k => k < w2.heap.size ∧ w.heap.size ≤ k) (Kd.R_lower (Kd.R_bound ho2) HB1.out.size) (fun k hk => ⟨hk.2.2.1, Nat.le_trans HB1.out.size hk.2.1⟩)); obtain ⟨B2, d2, eo2⟩ := Kd.R_slice ho2; subst eo2; clear ho2 hb))
    go_ret3
    exact ⟨_, _, rfl, Kd.R_nil _ _ _ _ _, Kd.R_nil _ _ _ _ _, HB2.out⟩
  subst c4
  rw [if_neg (by simp)] at H
  by_cases c5' : e6 = 0
  rotate_left
  · have H := H.out
    rw [if_pos c5'] at H
    injection H with h4 h5; injection h5 with h5 h6
    subst h4; subst h5; subst h6
    have c4b : (e6 == 0) = false := beq_eq_false_iff_ne.2 c5'
    have c4c : (e6 != 0) = true := bne_iff_ne.2 c5'
    clear c5'
    go_enter Try.func71, Try.ntmps71
    go_wp2_with (first | (go_at_call 66; (with_reducible refine (hist_Threshold.calls z _ _ HTh.out).mono ?_); rintro e w1 ⟨rfl, hb⟩; have HB1 := Aside0.mk (below_then (below_alloc (Below.refl w.heap.size w) (.cells #[.int .i64 s, .int .u64 z, .int .u64 zc, .int .u64 ct, .int .u64 sm, .slice A5 l5.length c5, .slice A6 l6.length c6, .slice A7 l7.length c7, .slice A8 l8.length c8] 26)) (by simp) hb.below); have HX1 := Aside0.mk (blk_below (blk_new w (.cells #[.int .i64 s, .int .u64 z, .int .u64 zc, .int .u64 ct, .int .u64 sm, .slice A5 l5.length c5, .slice A6 l6.length c6, .slice A7 l7.length c7, .slice A8 l8.length c8] 26)) hb.below); have hf := fun i => blk_cell HX1.out i; clear hb) | (go_at_call 107; (with_reducible refine (hist_side.calls _ _ l5 _ _ l7 p _ _ (Kd.C_below HRA.out.1 HB1.out) HCA.out.1 (Kd.C_below HRA.out.2.2.1 HB1.out) HCA.out.2.2.1 HS5.out).mono ?_); rintro e w2 ⟨v2, rfl, ho2, hb⟩; have HB2 := Aside0.mk (below_then HB1.out HB1.out.size hb); have HX2 := Aside0.mk (blk_below HX1.out hb); have hf2 := fun i => blk_cell HX2.out i; have HO2 := Aside0.mk (Kd.R_mono (ok' := fun k => k < w2.heap.size ∧ w.heap.size ≤ k) (Kd.R_lower (Kd.R_bound ho2) HB1.out.size) (fun k hk => ⟨hk.2.2.1, Nat.le_trans HB1.out.size hk.2.1⟩)); obtain ⟨B2, d2, eo2⟩ := Kd.R_slice ho2; subst eo2; clear ho2 hb) | (go_at_call 107; (with_reducible refine (hist_side.calls _ _ l6 _ _ l8 n _ _ (Kd.C_below HRA.out.2.1 HB2.out) HCA.out.2.1 (Kd.C_below HRA.out.2.2.2 HB2.out) HCA.out.2.2.2 HS6.out).mono ?_); rintro e w3 ⟨v3, rfl, ho3, hb⟩; have HB3 := Aside0.mk (below_then HB2.out HB2.out.size hb); have HX3 := Aside0.mk (blk_below HX2.out hb); have hf3 := fun i => blk_cell HX3.out i; have HO3 := Aside0.mk (And.intro (Kd.R_below HO2.out hb) (Kd.R_mono (ok' := fun k => w2.heap.size ≤ k ∧ w.heap.size ≤ k) (Kd.R_lower (Kd.R_bound ho3) HB2.out.size) (fun k hk => ⟨hk.2.1, Nat.le_trans HB2.out.size hk.2.1⟩))); obtain ⟨B3, d3, eo3⟩ := Kd.R_slice ho3; subst eo3; clear ho3 hb))
    go_ret3
    exact ⟨_, _, rfl, Kd.R_nil _ _ _ _ _, Kd.R_nil _ _ _ _ _, HB3.out⟩
  subst c5'
  rw [if_neg (by simp)] at H
  have HV := Aside0.mk (show u64 zc ∧ (∀ r ∈ [p, n], ∀ q ∈ r, 0 ≤ q.f1 ∧ q.f1 ≤ 9223372036854775807) ∧ (∀ r ∈ [p, n], r.length ≤ 4611686018427387904) by
    have h1 := HOK.out.1 rfl
    have h2 := HOK.out.2 rfl
    refine ⟨HU.out.1, fun r hr => ?_, fun r hr => ?_⟩
    · simp at hr; rcases hr with rfl | rfl
      · exact h1.1
      · exact h2.1
    · simp at hr; rcases hr with rfl | rfl <;> omega)
  obtain ⟨⟨tt, tb⟩, htt⟩ : ∃ t, t = totalRes zc [p, n] := ⟨_, rfl⟩
  have HTot := Aside0.mk htt.symm
  obtain ⟨bn, hbn⟩ : ∃ b, b = nan sm := ⟨_, rfl⟩
  have HNa := Aside0.mk (show hist_NaN.f sm = some bn by rw [hbn]; rfl)
  unfold fits at H
  rw [← htt, ← hbn] at H
  simp only at H
  clear htt hbn
  cases tb with
  | false =>
    have H := H.out
    rw [if_neg (by simp)] at H
    injection H with h4 h5; injection h5 with h5 h6
    subst h4; subst h5; subst h6
    go_enter Try.func71, Try.ntmps71
    go_wp2_with (first | (go_at_call 66; (with_reducible refine (hist_Threshold.calls z _ _ HTh.out).mono ?_); rintro e w1 ⟨rfl, hb⟩; have HB1 := Aside0.mk (below_then (below_alloc (Below.refl w.heap.size w) (.cells #[.int .i64 s, .int .u64 z, .int .u64 zc, .int .u64 ct, .int .u64 sm, .slice A5 l5.length c5, .slice A6 l6.length c6, .slice A7 l7.length c7, .slice A8 l8.length c8] 26)) (by simp) hb.below); have HX1 := Aside0.mk (blk_below (blk_new w (.cells #[.int .i64 s, .int .u64 z, .int .u64 zc, .int .u64 ct, .int .u64 sm, .slice A5 l5.length c5, .slice A6 l6.length c6, .slice A7 l7.length c7, .slice A8 l8.length c8] 26)) hb.below); have hf := fun i => blk_cell HX1.out i; clear hb) | (go_at_call 107; (with_reducible refine (hist_side.calls _ _ l5 _ _ l7 p _ _ (Kd.C_below HRA.out.1 HB1.out) HCA.out.1 (Kd.C_below HRA.out.2.2.1 HB1.out) HCA.out.2.2.1 HS5.out).mono ?_); rintro e w2 ⟨v2, rfl, ho2, hb⟩; have HB2 := Aside0.mk (below_then HB1.out HB1.out.size hb); have HX2 := Aside0.mk (blk_below HX1.out hb); have hf2 := fun i => blk_cell HX2.out i; have HO2 := Aside0.mk (Kd.R_mono (ok' := fun k => k < w2.heap.size ∧ w.heap.size ≤ k) (Kd.R_lower (Kd.R_bound ho2) HB1.out.size) (fun k hk => ⟨hk.2.2.1, Nat.le_trans HB1.out.size hk.2.1⟩)); obtain ⟨B2, d2, eo2⟩ := Kd.R_slice ho2; subst eo2; clear ho2 hb) | (go_at_call 107; (with_reducible refine (hist_side.calls _ _ l6 _ _ l8 n _ _ (Kd.C_below HRA.out.2.1 HB2.out) HCA.out.2.1 (Kd.C_below HRA.out.2.2.2 HB2.out) HCA.out.2.2.2 HS6.out).mono ?_); rintro e w3 ⟨v3, rfl, ho3, hb⟩; have HB3 := Aside0.mk (below_then HB2.out HB2.out.size hb); have HX3 := Aside0.mk (blk_below HX2.out hb); have hf3 := fun i => blk_cell HX3.out i; have HO3 := Aside0.mk (And.intro (Kd.R_below HO2.out hb) (Kd.R_mono (ok' := fun k => w2.heap.size ≤ k ∧ w.heap.size ≤ k) (Kd.R_lower (Kd.R_bound ho3) HB2.out.size) (fun k hk => ⟨hk.2.1, Nat.le_trans HB2.out.size hk.2.1⟩))); obtain ⟨B3, d3, eo3⟩ := Kd.R_slice ho3; subst eo3; clear ho3 hb) | (go_at_call 108; refine (hist_total s z zc ct sm _ _ _ _ _ _ _ _ _ _ _ _ w3.heap.size _ [p, n] _ HV.out.1 HV.out.2.1 HV.out.2.2 (by simp) (by simp) (rowsAt_two HO3.out.1 HO3.out.2)).mono ?_; rintro e w4 ⟨rfl, hb⟩; rw [HTot.out]; have HB4 := Aside0.mk (below_then HB3.out HB3.out.size (below_then (below_alloc (Below.refl _ _) _) (by simp) hb)); have HX4 := Aside0.mk (blk_below HX3.out (below_then (below_alloc (Below.refl _ _) _) (by simp) hb)); have hf4 := fun i => blk_cell HX4.out i; have HO4 := Aside0.mk (And.intro (Kd.R_below HO3.out.1 (below_then (below_alloc (Below.refl _ _) _) (by simp) hb)) (Kd.R_below HO3.out.2 (below_then (below_alloc (Below.refl _ _) _) (by simp) hb))); clear hb))
    go_ret3
    exact ⟨_, _, rfl, Kd.R_nil _ _ _ _ _, Kd.R_nil _ _ _ _ _, HB4.out⟩
  | true =>
    by_cases d1 : ct < tt
    · have d1b : decide (ct < tt) = true := decide_eq_true d1
      have H := H.out
      rw [if_neg (by simp; omega)] at H
      injection H with h4 h5; injection h5 with h5 h6
      subst h4; subst h5; subst h6
      clear d1
      go_enter Try.func71, Try.ntmps71
      go_wp2_with (first | (go_at_call 66; (with_reducible refine (hist_Threshold.calls z _ _ HTh.out).mono ?_); rintro e w1 ⟨rfl, hb⟩; have HB1 := Aside0.mk (below_then (below_alloc (Below.refl w.heap.size w) (.cells #[.int .i64 s, .int .u64 z, .int .u64 zc, .int .u64 ct, .int .u64 sm, .slice A5 l5.length c5, .slice A6 l6.length c6, .slice A7 l7.length c7, .slice A8 l8.length c8] 26)) (by simp) hb.below); have HX1 := Aside0.mk (blk_below (blk_new w (.cells #[.int .i64 s, .int .u64 z, .int .u64 zc, .int .u64 ct, .int .u64 sm, .slice A5 l5.length c5, .slice A6 l6.length c6, .slice A7 l7.length c7, .slice A8 l8.length c8] 26)) hb.below); have hf := fun i => blk_cell HX1.out i; clear hb) | (go_at_call 107; (with_reducible refine (hist_side.calls _ _ l5 _ _ l7 p _ _ (Kd.C_below HRA.out.1 HB1.out) HCA.out.1 (Kd.C_below HRA.out.2.2.1 HB1.out) HCA.out.2.2.1 HS5.out).mono ?_); rintro e w2 ⟨v2, rfl, ho2, hb⟩; have HB2 := Aside0.mk (below_then HB1.out HB1.out.size hb); have HX2 := Aside0.mk (blk_below HX1.out hb); have hf2 := fun i => blk_cell HX2.out i; have HO2 := Aside0.mk (Kd.R_mono (ok' := fun k => k < w2.heap.size ∧ w.heap.size ≤ k) (Kd.R_lower (Kd.R_bound ho2) HB1.out.size) (fun k hk => ⟨hk.2.2.1, Nat.le_trans HB1.out.size hk.2.1⟩)); obtain ⟨B2, d2, eo2⟩ := Kd.R_slice ho2; subst eo2; clear ho2 hb) | (go_at_call 107; (with_reducible refine (hist_side.calls _ _ l6 _ _ l8 n _ _ (Kd.C_below HRA.out.2.1 HB2.out) HCA.out.2.1 (Kd.C_below HRA.out.2.2.2 HB2.out) HCA.out.2.2.2 HS6.out).mono ?_); rintro e w3 ⟨v3, rfl, ho3, hb⟩; have HB3 := Aside0.mk (below_then HB2.out HB2.out.size hb); have HX3 := Aside0.mk (blk_below HX2.out hb); have hf3 := fun i => blk_cell HX3.out i; have HO3 := Aside0.mk (And.intro (Kd.R_below HO2.out hb) (Kd.R_mono (ok' := fun k => w2.heap.size ≤ k ∧ w.heap.size ≤ k) (Kd.R_lower (Kd.R_bound ho3) HB2.out.size) (fun k hk => ⟨hk.2.1, Nat.le_trans HB2.out.size hk.2.1⟩))); obtain ⟨B3, d3, eo3⟩ := Kd.R_slice ho3; subst eo3; clear ho3 hb) | (go_at_call 108; refine (hist_total s z zc ct sm _ _ _ _ _ _ _ _ _ _ _ _ w3.heap.size _ [p, n] _ HV.out.1 HV.out.2.1 HV.out.2.2 (by simp) (by simp) (rowsAt_two HO3.out.1 HO3.out.2)).mono ?_; rintro e w4 ⟨rfl, hb⟩; rw [HTot.out]; have HB4 := Aside0.mk (below_then HB3.out HB3.out.size (below_then (below_alloc (Below.refl _ _) _) (by simp) hb)); have HX4 := Aside0.mk (blk_below HX3.out (below_then (below_alloc (Below.refl _ _) _) (by simp) hb)); have hf4 := fun i => blk_cell HX4.out i; have HO4 := Aside0.mk (And.intro (Kd.R_below HO3.out.1 (below_then (below_alloc (Below.refl _ _) _) (by simp) hb)) (Kd.R_below HO3.out.2 (below_then (below_alloc (Below.refl _ _) _) (by simp) hb))); clear hb))
      go_ret3
      exact ⟨_, _, rfl, Kd.R_nil _ _ _ _ _, Kd.R_nil _ _ _ _ _, HB4.out⟩
    have d1b : decide (ct < tt) = false := decide_eq_false d1
    by_cases d2 : tt < ct
    · have d2b : decide (tt < ct) = true := decide_eq_true d2
      cases bn with
      | false =>
        have H := H.out
        rw [if_neg (by simp; omega)] at H
        injection H with h4 h5; injection h5 with h5 h6
        subst h4; subst h5; subst h6
        clear d1 d2
        go_enter Try.func71, Try.ntmps71
        go_wp2_with (first | (go_at_call 66; (with_reducible refine (hist_Threshold.calls z _ _ HTh.out).mono ?_); rintro e w1 ⟨rfl, hb⟩; have HB1 := Aside0.mk (below_then (below_alloc (Below.refl w.heap.size w) (.cells #[.int .i64 s, .int .u64 z, .int .u64 zc, .int .u64 ct, .int .u64 sm, .slice A5 l5.length c5, .slice A6 l6.length c6, .slice A7 l7.length c7, .slice A8 l8.length c8] 26)) (by simp) hb.below); have HX1 := Aside0.mk (blk_below (blk_new w (.cells #[.int .i64 s, .int .u64 z, .int .u64 zc, .int .u64 ct, .int .u64 sm, .slice A5 l5.length c5, .slice A6 l6.length c6, .slice A7 l7.length c7, .slice A8 l8.length c8] 26)) hb.below); have hf := fun i => blk_cell HX1.out i; clear hb) | (go_at_call 107; (with_reducible refine (hist_side.calls _ _ l5 _ _ l7 p _ _ (Kd.C_below HRA.out.1 HB1.out) HCA.out.1 (Kd.C_below HRA.out.2.2.1 HB1.out) HCA.out.2.2.1 HS5.out).mono ?_); rintro e w2 ⟨v2, rfl, ho2, hb⟩; have HB2 := Aside0.mk (below_then HB1.out HB1.out.size hb); have HX2 := Aside0.mk (blk_below HX1.out hb); have hf2 := fun i => blk_cell HX2.out i; have HO2 := Aside0.mk (Kd.R_mono (ok' := fun k => k < w2.heap.size ∧ w.heap.size ≤ k) (Kd.R_lower (Kd.R_bound ho2) HB1.out.size) (fun k hk => ⟨hk.2.2.1, Nat.le_trans HB1.out.size hk.2.1⟩)); obtain ⟨B2, d2, eo2⟩ := Kd.R_slice ho2; subst eo2; clear ho2 hb) | (go_at_call 107; (with_reducible refine (hist_side.calls _ _ l6 _ _ l8 n _ _ (Kd.C_below HRA.out.2.1 HB2.out) HCA.out.2.1 (Kd.C_below HRA.out.2.2.2 HB2.out) HCA.out.2.2.2 HS6.out).mono ?_); rintro e w3 ⟨v3, rfl, ho3, hb⟩; have HB3 := Aside0.mk (below_then HB2.out HB2.out.size hb); have HX3 := Aside0.mk (blk_below HX2.out hb); have hf3 := fun i => blk_cell HX3.out i; have HO3 := Aside0.mk (And.intro (Kd.R_below HO2.out hb) (Kd.R_mono (ok' := fun k => w2.heap.size ≤ k ∧ w.heap.size ≤ k) (Kd.R_lower (Kd.R_bound ho3) HB2.out.size) (fun k hk => ⟨hk.2.1, Nat.le_trans HB2.out.size hk.2.1⟩))); obtain ⟨B3, d3, eo3⟩ := Kd.R_slice ho3; subst eo3; clear ho3 hb) | (go_at_call 108; refine (hist_total s z zc ct sm _ _ _ _ _ _ _ _ _ _ _ _ w3.heap.size _ [p, n] _ HV.out.1 HV.out.2.1 HV.out.2.2 (by simp) (by simp) (rowsAt_two HO3.out.1 HO3.out.2)).mono ?_; rintro e w4 ⟨rfl, hb⟩; rw [HTot.out]; have HB4 := Aside0.mk (below_then HB3.out HB3.out.size (below_then (below_alloc (Below.refl _ _) _) (by simp) hb)); have HX4 := Aside0.mk (blk_below HX3.out (below_then (below_alloc (Below.refl _ _) _) (by simp) hb)); have hf4 := fun i => blk_cell HX4.out i; have HO4 := Aside0.mk (And.intro (Kd.R_below HO3.out.1 (below_then (below_alloc (Below.refl _ _) _) (by simp) hb)) (Kd.R_below HO3.out.2 (below_then (below_alloc (Below.refl _ _) _) (by simp) hb))); clear hb) | (go_at_call 65; (with_reducible refine (hist_NaN.calls sm _ _ HNa.out).mono ?_); rintro e w5 ⟨rfl, hb⟩; have HB5 := Aside0.mk (below_then HB4.out HB4.out.size hb.below); have HX5 := Aside0.mk (blk_below HX4.out hb.below); have hf5 := fun i => blk_cell HX5.out i; have HO5 := Aside0.mk (And.intro (Kd.R_below HO4.out.1 hb.below) (Kd.R_below HO4.out.2 hb.below)); clear hb))
        go_ret3
        exact ⟨_, _, rfl, Kd.R_nil _ _ _ _ _, Kd.R_nil _ _ _ _ _, HB5.out⟩
      | true =>
        have H := H.out
        rw [if_pos (by simp; omega)] at H
        injection H with h4 h5; injection h5 with h5 h6
        subst h4; subst h5; subst h6
        clear d1 d2
        go_enter Try.func71, Try.ntmps71
        go_wp2_with (first | (go_at_call 66; (with_reducible refine (hist_Threshold.calls z _ _ HTh.out).mono ?_); rintro e w1 ⟨rfl, hb⟩; have HB1 := Aside0.mk (below_then (below_alloc (Below.refl w.heap.size w) (.cells #[.int .i64 s, .int .u64 z, .int .u64 zc, .int .u64 ct, .int .u64 sm, .slice A5 l5.length c5, .slice A6 l6.length c6, .slice A7 l7.length c7, .slice A8 l8.length c8] 26)) (by simp) hb.below); have HX1 := Aside0.mk (blk_below (blk_new w (.cells #[.int .i64 s, .int .u64 z, .int .u64 zc, .int .u64 ct, .int .u64 sm, .slice A5 l5.length c5, .slice A6 l6.length c6, .slice A7 l7.length c7, .slice A8 l8.length c8] 26)) hb.below); have hf := fun i => blk_cell HX1.out i; clear hb) | (go_at_call 107; (with_reducible refine (hist_side.calls _ _ l5 _ _ l7 p _ _ (Kd.C_below HRA.out.1 HB1.out) HCA.out.1 (Kd.C_below HRA.out.2.2.1 HB1.out) HCA.out.2.2.1 HS5.out).mono ?_); rintro e w2 ⟨v2, rfl, ho2, hb⟩; have HB2 := Aside0.mk (below_then HB1.out HB1.out.size hb); have HX2 := Aside0.mk (blk_below HX1.out hb); have hf2 := fun i => blk_cell HX2.out i; have HO2 := Aside0.mk (Kd.R_mono (ok' := fun k => k < w2.heap.size ∧ w.heap.size ≤ k) (Kd.R_lower (Kd.R_bound ho2) HB1.out.size) (fun k hk => ⟨hk.2.2.1, Nat.le_trans HB1.out.size hk.2.1⟩)); obtain ⟨B2, d2, eo2⟩ := Kd.R_slice ho2; subst eo2; clear ho2 hb) | (go_at_call 107; (with_reducible refine (hist_side.calls _ _ l6 _ _ l8 n _ _ (Kd.C_below HRA.out.2.1 HB2.out) HCA.out.2.1 (Kd.C_below HRA.out.2.2.2 HB2.out) HCA.out.2.2.2 HS6.out).mono ?_); rintro e w3 ⟨v3, rfl, ho3, hb⟩; have HB3 := Aside0.mk (below_then HB2.out HB2.out.size hb); have HX3 := Aside0.mk (blk_below HX2.out hb); have hf3 := fun i => blk_cell HX3.out i; have HO3 := Aside0.mk (And.intro (Kd.R_below HO2.out hb) (Kd.R_mono (ok' := fun k => w2.heap.size ≤ k ∧ w.heap.size ≤ k) (Kd.R_lower (Kd.R_bound ho3) HB2.out.size) (fun k hk => ⟨hk.2.1, Nat.le_trans HB2.out.size hk.2.1⟩))); obtain ⟨B3, d3, eo3⟩ := Kd.R_slice ho3; subst eo3; clear ho3 hb) | (go_at_call 108; refine (hist_total s z zc ct sm _ _ _ _ _ _ _ _ _ _ _ _ w3.heap.size _ [p, n] _ HV.out.1 HV.out.2.1 HV.out.2.2 (by simp) (by simp) (rowsAt_two HO3.out.1 HO3.out.2)).mono ?_; rintro e w4 ⟨rfl, hb⟩; rw [HTot.out]; have HB4 := Aside0.mk (below_then HB3.out HB3.out.size (below_then (below_alloc (Below.refl _ _) _) (by simp) hb)); have HX4 := Aside0.mk (blk_below HX3.out (below_then (below_alloc (Below.refl _ _) _) (by simp) hb)); have hf4 := fun i => blk_cell HX4.out i; have HO4 := Aside0.mk (And.intro (Kd.R_below HO3.out.1 (below_then (below_alloc (Below.refl _ _) _) (by simp) hb)) (Kd.R_below HO3.out.2 (below_then (below_alloc (Below.refl _ _) _) (by simp) hb))); clear hb) | (go_at_call 65; (with_reducible refine (hist_NaN.calls sm _ _ HNa.out).mono ?_); rintro e w5 ⟨rfl, hb⟩; have HB5 := Aside0.mk (below_then HB4.out HB4.out.size hb.below); have HX5 := Aside0.mk (blk_below HX4.out hb.below); have hf5 := fun i => blk_cell HX5.out i; have HO5 := Aside0.mk (And.intro (Kd.R_below HO4.out.1 hb.below) (Kd.R_below HO4.out.2 hb.below)); clear hb))
        go_ret3
        exact ⟨_, _, rfl, (R_apart_two HO5.out.1 HO5.out.2).1, (R_apart_two HO5.out.1 HO5.out.2).2, HB5.out⟩
    · have d2b : decide (tt < ct) = false := decide_eq_false d2
      have H := H.out
      rw [if_pos (by simp; omega)] at H
      injection H with h4 h5; injection h5 with h5 h6
      subst h4; subst h5; subst h6
      clear d1 d2
      go_enter Try.func71, Try.ntmps71
      go_wp2_with (first | (go_at_call 66; (with_reducible refine (hist_Threshold.calls z _ _ HTh.out).mono ?_); rintro e w1 ⟨rfl, hb⟩; have HB1 := Aside0.mk (below_then (below_alloc (Below.refl w.heap.size w) (.cells #[.int .i64 s, .int .u64 z, .int .u64 zc, .int .u64 ct, .int .u64 sm, .slice A5 l5.length c5, .slice A6 l6.length c6, .slice A7 l7.length c7, .slice A8 l8.length c8] 26)) (by simp) hb.below); have HX1 := Aside0.mk (blk_below (blk_new w (.cells #[.int .i64 s, .int .u64 z, .int .u64 zc, .int .u64 ct, .int .u64 sm, .slice A5 l5.length c5, .slice A6 l6.length c6, .slice A7 l7.length c7, .slice A8 l8.length c8] 26)) hb.below); have hf := fun i => blk_cell HX1.out i; clear hb) | (go_at_call 107; (with_reducible refine (hist_side.calls _ _ l5 _ _ l7 p _ _ (Kd.C_below HRA.out.1 HB1.out) HCA.out.1 (Kd.C_below HRA.out.2.2.1 HB1.out) HCA.out.2.2.1 HS5.out).mono ?_); rintro e w2 ⟨v2, rfl, ho2, hb⟩; have HB2 := Aside0.mk (below_then HB1.out HB1.out.size hb); have HX2 := Aside0.mk (blk_below HX1.out hb); have hf2 := fun i => blk_cell HX2.out i; have HO2 := Aside0.mk (Kd.R_mono (ok' := fun k => k < w2.heap.size ∧ w.heap.size ≤ k) (Kd.R_lower (Kd.R_bound ho2) HB1.out.size) (fun k hk => ⟨hk.2.2.1, Nat.le_trans HB1.out.size hk.2.1⟩)); obtain ⟨B2, d2, eo2⟩ := Kd.R_slice ho2; subst eo2; clear ho2 hb) | (go_at_call 107; (with_reducible refine (hist_side.calls _ _ l6 _ _ l8 n _ _ (Kd.C_below HRA.out.2.1 HB2.out) HCA.out.2.1 (Kd.C_below HRA.out.2.2.2 HB2.out) HCA.out.2.2.2 HS6.out).mono ?_); rintro e w3 ⟨v3, rfl, ho3, hb⟩; have HB3 := Aside0.mk (below_then HB2.out HB2.out.size hb); have HX3 := Aside0.mk (blk_below HX2.out hb); have hf3 := fun i => blk_cell HX3.out i; have HO3 := Aside0.mk (And.intro (Kd.R_below HO2.out hb) (Kd.R_mono (ok' := fun k => w2.heap.size ≤ k ∧ w.heap.size ≤ k) (Kd.R_lower (Kd.R_bound ho3) HB2.out.size) (fun k hk => ⟨hk.2.1, Nat.le_trans HB2.out.size hk.2.1⟩))); obtain ⟨B3, d3, eo3⟩ := Kd.R_slice ho3; subst eo3; clear ho3 hb) | (go_at_call 108; refine (hist_total s z zc ct sm _ _ _ _ _ _ _ _ _ _ _ _ w3.heap.size _ [p, n] _ HV.out.1 HV.out.2.1 HV.out.2.2 (by simp) (by simp) (rowsAt_two HO3.out.1 HO3.out.2)).mono ?_; rintro e w4 ⟨rfl, hb⟩; rw [HTot.out]; have HB4 := Aside0.mk (below_then HB3.out HB3.out.size (below_then (below_alloc (Below.refl _ _) _) (by simp) hb)); have HX4 := Aside0.mk (blk_below HX3.out (below_then (below_alloc (Below.refl _ _) _) (by simp) hb)); have hf4 := fun i => blk_cell HX4.out i; have HO4 := Aside0.mk (And.intro (Kd.R_below HO3.out.1 (below_then (below_alloc (Below.refl _ _) _) (by simp) hb)) (Kd.R_below HO3.out.2 (below_then (below_alloc (Below.refl _ _) _) (by simp) hb))); clear hb))
      go_ret3
      exact ⟨_, _, rfl, (R_apart_two HO4.out.1 HO4.out.2).1, (R_apart_two HO4.out.1 HO4.out.2).2, HB4.out⟩
end Go.Proofs.Ytfbjjbbhnmoolaa.P
namespace Go.Proofs.Ytfbjjbbhnmoolaa.P
section
variable {α : Type} (key val : α → Int)
def Ups (l : List α) : Prop := l.Pairwise (fun a b => key a < key b)
variable {key val}
theorem Ups.nil : Ups key ([] : List α) := List.Pairwise.nil
theorem Ups.tail {x : α} {l : List α} (h : Ups key (x :: l)) : Ups key l := (List.pairwise_cons.1 h).2
theorem Ups.head {x : α} {l : List α} (h : Ups key (x :: l)) : ∀ y ∈ l, key x < key y := (List.pairwise_cons.1 h).1
theorem Ups.filter {l : List α} (p : α → Bool) (h : Ups key l) : Ups key (l.filter p) := List.Pairwise.filter p h
theorem Ups.inj {l : List α} (hu : Ups key l) {x y : α} (hx : x ∈ l) (hy : y ∈ l) (h : key x = key y) : x = y := by
  induction l with
  | nil => cases hx
  | cons z l ih =>
    rcases List.mem_cons.1 hx with e1 | hx1
    · rcases List.mem_cons.1 hy with e2 | hy1
      · rw [e1, e2]
      · have := hu.head y hy1; rw [e1] at h; omega
    · rcases List.mem_cons.1 hy with e2 | hy1
      · have := hu.head x hx1; rw [e2] at h; omega
      · exact ih hu.tail hx1 hy1
end
section
variable {β α ρ : Type}
end
section
variable {α : Type} {key val : α → Int}
end
section
variable {α : Type}
variable {key : α → Int} {join : α → α → α}
end
end Go.Proofs.Ytfbjjbbhnmoolaa.P
namespace Go.Proofs.Ytfbjjbbhnmoolaa.P
open Go.RowKit Go.Shelf Go.Proofs.YtfbjjbbhnmoolaaW.PrintWords Go.Proofs.YtfbjjbbhnmoolaaW.PrintLast Go.Proofs.YtfbjjbbhnmoolaaW.PrintMore
def SI {α : Type} (d : Kd α) (w : World) (v : Value) (l : List α) : Prop := ∃ A c, v = .slice A l.length c ∧ l.length ≤ c ∧ d.C w A l.length l
theorem SI.below {α : Type} {d : Kd α} {w w' : World} {v : Value} {l : List α} (h : SI d w v l) (hb : Below w.heap.size w w') : SI d w' v l := by
  obtain ⟨A, c, e, h1, h2⟩ := h
  exact ⟨A, c, e, h1, Kd.C_below h2 hb⟩
theorem SI.of {α : Type} {d : Kd α} {w : World} {A : Option Addr} {c : Nat} {l : List α} (h2 : d.C w A l.length l) (h1 : l.length ≤ c) : SI d w (.slice A l.length c) l := ⟨A, c, rfl, h1, h2⟩
theorem SI.of_R {α : Type} {d : Kd α} {e : Nat} {w : World} {base : Nat} {ok : Nat → Prop} {v : Value} {l : List α} (h : d.R e w base ok v l) : SI d w v l := Kd.R_reads h
theorem SI.nil {α : Type} (d : Kd α) (w : World) : SI d w (.slice none 0 0) [] := ⟨none, 0, rfl, Nat.le_refl _, Kd.C_nil d w⟩
abbrev Hi := S26
abbrev kSp := k86
abbrev kPr := k109
def HI (w : World) (v : Value) (h : Hi) : Prop :=
  ∃ v5 v6 v7 v8, v = .agg #[.int .i64 h.f0, .int .u64 h.f1, .int .u64 h.f2, .int .u64 h.f3, .int .u64 h.f4, v5, v6, v7, v8] ∧ SI kSp w v5 h.f5 ∧ SI kSp w v6 h.f6 ∧ SI (Kd.int .i64) w v7 h.f7 ∧ SI (Kd.int .i64) w v8 h.f8
theorem HI.below {w w' : World} {v : Value} {h : Hi} (x : HI w v h) (hb : Below w.heap.size w w') : HI w' v h := by
  obtain ⟨v5, v6, v7, v8, e, h5, h6, h7, h8⟩ := x
  exact ⟨v5, v6, v7, v8, e, h5.below hb, h6.below hb, h7.below hb, h8.below hb⟩
theorem HI.open_ {w : World} {v : Value} {h : Hi} (x : HI w v h) : ∃ A5 c5 A6 c6 A7 c7 A8 c8, v = .agg #[.int .i64 h.f0, .int .u64 h.f1, .int .u64 h.f2, .int .u64 h.f3, .int .u64 h.f4, .slice A5 h.f5.length c5, .slice A6 h.f6.length c6, .slice A7 h.f7.length c7, .slice A8 h.f8.length c8] ∧
    SI kSp w (.slice A5 h.f5.length c5) h.f5 ∧ SI kSp w (.slice A6 h.f6.length c6) h.f6 ∧ SI (Kd.int .i64) w (.slice A7 h.f7.length c7) h.f7 ∧ SI (Kd.int .i64) w (.slice A8 h.f8.length c8) h.f8 := by
  obtain ⟨v5, v6, v7, v8, rfl, h5, h6, h7, h8⟩ := x
  obtain ⟨A5, c5, rfl, h51, h52⟩ := h5
  obtain ⟨A6, c6, rfl, h61, h62⟩ := h6
  obtain ⟨A7, c7, rfl, h71, h72⟩ := h7
  obtain ⟨A8, c8, rfl, h81, h82⟩ := h8
  exact ⟨A5, c5, A6, c6, A7, c7, A8, c8, rfl, .of h52 h51, .of h62 h61, .of h72 h71, .of h82 h81⟩
theorem HI.mk {w : World} {h : Hi} {v5 v6 v7 v8 : Value} (h5 : SI kSp w v5 h.f5) (h6 : SI kSp w v6 h.f6) (h7 : SI (Kd.int .i64) w v7 h.f7) (h8 : SI (Kd.int .i64) w v8 h.f8) :
    HI w (.agg #[.int .i64 h.f0, .int .u64 h.f1, .int .u64 h.f2, .int .u64 h.f3, .int .u64 h.f4, v5, v6, v7, v8]) h := ⟨v5, v6, v7, v8, rfl, h5, h6, h7, h8⟩
def wfH (h : Hi) : Prop := wfHi h.f0 h.f1 h.f2 h.f3 h.f4 h.f5 h.f6 h.f7 h.f8
def openR (h : Hi) : List Pr × List Pr × Int := openRes h.f0 h.f1 h.f2 h.f3 h.f4 h.f5 h.f6 h.f7 h.f8
def checkR (h : Hi) : Int := (openR h).2.2
theorem open_c (h : Hi) (hw : wfH h) (w : World) (v : Value) (hv : HI w v h) : Calls Try.prog 71 #[v] w fun e w' =>
    ∃ v0 v1 : Value, e = .returned (.tuple #[v0, v1, .int .i64 (openR h).2.2]) ∧ SI kPr w' v0 (openR h).1 ∧ SI kPr w' v1 (openR h).2.1 ∧ Below w.heap.size w w' := by
  obtain ⟨A5, c5, A6, c6, A7, c7, A8, c8, rfl, ⟨_, _, e5, h51, h52⟩, ⟨_, _, e6, h61, h62⟩, ⟨_, _, e7, h71, h72⟩, ⟨_, _, e8, h81, h82⟩⟩ := hv.open_
  cases e5; cases e6; cases e7; cases e8
  refine (hist_open.calls h.f0 h.f1 h.f2 h.f3 h.f4 A5 c5 h.f5 A6 c6 h.f6 A7 c7 h.f7 A8 c8 h.f8 (openR h).1 (openR h).2.1 (openR h).2.2 w h52 h51 h62 h61 h72 h71 h82 h81 (if_pos hw)).mono ?_
  rintro e w1 ⟨v0, v1, rfl, h0, h1, hb⟩
  exact ⟨v0, v1, rfl, .of_R h0, .of_R h1, hb⟩
set_option maxHeartbeats 4000000 in
set_option maxRecDepth 100000 in
theorem check_c (h : Hi) (hw : wfH h) (w : World) (v : Value) (hv : HI w v h) : Calls Try.prog 50 #[v] w fun e w' =>
    e = .returned (.int .i64 (checkR h)) ∧ Below w.heap.size w w' := by
  have hu := Try.underlying26
  obtain ⟨A5, c5, A6, c6, A7, c7, A8, c8, e, -⟩ := hv.open_
  subst e
  have HV := Aside0.mk hv
  have HW := Aside0.mk hw
  clear hv hw
  go_enter Try.func50, Try.ntmps50
  go_wp2_with (go_at_call 71; (with_reducible refine (open_c h HW.out _ _ (HV.out.below (below_alloc (Below.refl _ _) _))).mono ?_); rintro e w1 ⟨v0, v1, rfl, h0, h1, hb⟩; have HB := Aside0.mk (below_then (below_alloc (Below.refl w.heap.size w) _) (by simp) hb); clear h0 h1 hb)
  go_ret
  exact ⟨rfl, HB.out⟩
end Go.Proofs.Ytfbjjbbhnmoolaa.P
namespace Go.Proofs.Ytfbjjbbhnmoolaa.P
open Go.RowKit Go.Shelf Go.Proofs.YtfbjjbbhnmoolaaW.PrintWords Go.Proofs.YtfbjjbbhnmoolaaW.PrintLast Go.Proofs.YtfbjjbbhnmoolaaW.PrintMore
def KA (base : Nat) (w w' : World) : Prop := w.heap.size ≤ w'.heap.size ∧ ∀ k, base ≤ k → k < w.heap.size → w'.heap[k]? = w.heap[k]?
theorem KA.refl (base : Nat) (w : World) : KA base w w := ⟨Nat.le_refl _, fun _ _ _ => rfl⟩
theorem KA.trans {base : Nat} {a b c : World} (h : KA base a b) (k : KA base b c) : KA base a c := ⟨Nat.le_trans h.1 k.1, fun i h0 h1 => (k.2 i h0 (Nat.lt_of_lt_of_le h1 h.1)).trans (h.2 i h0 h1)⟩
theorem KA.below {base : Nat} {w w' : World} (h : Below w.heap.size w w') : KA base w w' := ⟨h.size, fun k _ h1 => h.block k h1⟩
theorem KA.set {base b i : Nat} (w : World) (hb : b < base) (u : Value) : KA base w (w.setCell ⟨b, i, none⟩ u) := ⟨by simp [World.setCell], fun k h0 _ => Below.heap_setCell w ⟨b, i, none⟩ u k (by show k ≠ b; omega)⟩
def FI {α : Type} (d : Kd α) (base : Nat) (w : World) (v : Value) (l : List α) : Prop := ∀ w', KA base w w' → SI d w' v l
theorem FI.now {α : Type} {d : Kd α} {base : Nat} {w : World} {v : Value} {l : List α} (h : FI d base w v l) : SI d w v l := h w (KA.refl _ _)
theorem FI.at_ {α : Type} {d : Kd α} {base : Nat} {w w' : World} {v : Value} {l : List α} (h : FI d base w v l) (k : KA base w w') : SI d w' v l := h w' k
theorem FI.step {α : Type} {d : Kd α} {base : Nat} {w w' : World} {v : Value} {l : List α} (h : FI d base w v l) (k : KA base w w') : FI d base w' v l := fun w2 h2 => h w2 (k.trans h2)
theorem FI.of_R {α : Type} {d : Kd α} {e : Nat} {w : World} {base b : Nat} {ok : Nat → Prop} {v : Value} {l : List α} (h : d.R e w b ok v l) (hb : base ≤ b) : FI d base w v l := fun w' hk =>
  .of_R (Kd.R_step (Kd.R_bound h) (fun k ho hlt => hk.2 k (Nat.le_trans hb ho.2.1) hlt))
theorem FI.slice {α : Type} {d : Kd α} {base : Nat} {w : World} {v : Value} {l : List α} (h : FI d base w v l) : ∃ A c, v = .slice A l.length c := by obtain ⟨A, c, e, _⟩ := h.now; exact ⟨A, c, e⟩
def wfRow (l : List Pr) : Prop := wfPrs l ∧ l.length < 4398046511104
def HF (base : Nat) (w : World) (v : Value) (h : Hi) : Prop :=
  ∃ v5 v6 v7 v8, v = .agg #[.int .i64 h.f0, .int .u64 h.f1, .int .u64 h.f2, .int .u64 h.f3, .int .u64 h.f4, v5, v6, v7, v8] ∧ FI kSp base w v5 h.f5 ∧ FI kSp base w v6 h.f6 ∧ FI (Kd.int .i64) base w v7 h.f7 ∧ FI (Kd.int .i64) base w v8 h.f8
theorem HF.now {base : Nat} {w : World} {v : Value} {h : Hi} (x : HF base w v h) : HI w v h := by
  obtain ⟨v5, v6, v7, v8, e, h5, h6, h7, h8⟩ := x
  exact ⟨v5, v6, v7, v8, e, h5.now, h6.now, h7.now, h8.now⟩
theorem HF.step {base : Nat} {w w' : World} {v : Value} {h : Hi} (x : HF base w v h) (k : KA base w w') : HF base w' v h := by
  obtain ⟨v5, v6, v7, v8, e, h5, h6, h7, h8⟩ := x
  exact ⟨v5, v6, v7, v8, e, h5.step k, h6.step k, h7.step k, h8.step k⟩
theorem HF.mk {base : Nat} {w : World} {h : Hi} {v5 v6 v7 v8 : Value} (h5 : FI kSp base w v5 h.f5) (h6 : FI kSp base w v6 h.f6) (h7 : FI (Kd.int .i64) base w v7 h.f7) (h8 : FI (Kd.int .i64) base w v8 h.f8) :
    HF base w (.agg #[.int .i64 h.f0, .int .u64 h.f1, .int .u64 h.f2, .int .u64 h.f3, .int .u64 h.f4, v5, v6, v7, v8]) h := ⟨v5, v6, v7, v8, rfl, h5, h6, h7, h8⟩
theorem HF.open_ {base : Nat} {w : World} {v : Value} {h : Hi} (x : HF base w v h) : ∃ A5 c5 A6 c6 A7 c7 A8 c8, v = .agg #[.int .i64 h.f0, .int .u64 h.f1, .int .u64 h.f2, .int .u64 h.f3, .int .u64 h.f4, .slice A5 h.f5.length c5, .slice A6 h.f6.length c6, .slice A7 h.f7.length c7, .slice A8 h.f8.length c8] := by
  obtain ⟨A5, c5, A6, c6, A7, c7, A8, c8, e, -⟩ := x.now.open_
  exact ⟨A5, c5, A6, c6, A7, c7, A8, c8, e⟩
end Go.Proofs.Ytfbjjbbhnmoolaa.P
namespace Go.Proofs.Ytfbjjbbhnmoolaa.P
open Go.RowKit Go.Shelf Go.Proofs.YtfbjjbbhnmoolaaW.PrintWords Go.Proofs.YtfbjjbbhnmoolaaW.PrintLast Go.Proofs.YtfbjjbbhnmoolaaW.PrintMore
attribute [local go_sem] Oper.semAt_some
def cnts (l : List Pr) : Prop := ∀ p ∈ l, i64 p.f0 ∧ 0 ≤ p.f1 ∧ p.f1 ≤ 9223372036854775807
instance (l : List Pr) : Decidable (cnts l) := by unfold cnts; exact inferInstance
end Go.Proofs.Ytfbjjbbhnmoolaa.P
namespace Go.Proofs.Ytfbjjbbhnmoolaa.P
open Go.RowKit Go.Shelf Go.Proofs.YtfbjjbbhnmoolaaW.PrintWords Go.Proofs.YtfbjjbbhnmoolaaW.PrintLast Go.Proofs.YtfbjjbbhnmoolaaW.PrintMore
structure RowOK (l : List Pr) : Prop where
  wf : wfRow l
  len : l.length ≤ 4096
  cnt : cnts l
  ups : Ups (fun p : Pr => p.f0) l
theorem rises_ups : ∀ (l : List Int) (e : Int), rises e l = true → l.Pairwise (· < ·) ∧ ∀ x ∈ l, e ≤ x
  | [], _, _ => ⟨List.Pairwise.nil, fun x hx => by simp at hx⟩
  | p :: l, e, h => by
    simp only [rises, Bool.and_eq_true, decide_eq_true_eq] at h
    obtain ⟨h1, h2⟩ := rises_ups l (p + 1) h.2
    refine ⟨List.pairwise_cons.2 ⟨fun x hx => by have := h2 x hx; omega, h1⟩, fun x hx => ?_⟩
    rcases List.mem_cons.1 hx with rfl | hx
    · exact h.1.1
    · have := h2 x hx; omega
theorem zip_ups : ∀ (ps v : List Int), ps.Pairwise (· < ·) → Ups (fun p : Pr => p.f0) (List.zipWith (fun p x => (⟨p, x⟩ : Pr)) ps v)
  | [], _, _ => by simp [Ups]
  | p :: ps, [], _ => by simp [Ups]
  | p :: ps, x :: v, h => by
    have h1 := List.pairwise_cons.1 h
    refine List.pairwise_cons.2 ⟨fun y hy => ?_, zip_ups ps v h1.2⟩
    have : y.f0 ∈ ps := by
      obtain ⟨i, hi, rfl⟩ := List.mem_iff_getElem.1 hy
      simp only [List.getElem_zipWith]; exact List.getElem_mem _
    exact h1.1 _ this
theorem RowOK.nil : RowOK [] := ⟨⟨fun s hs => by simp at hs, by simp⟩, by simp, fun s hs => by simp at hs, Ups.nil⟩
theorem sideRes_row {l : List Sp} {d : List Int} (hd : i64s d) : RowOK (sideRes l d).1 := by
  by_cases h0 : (sideRes l d).2 = 0
  · obtain ⟨hc, hl⟩ := sideRes_ok hd h0
    unfold sideRes at h0 hc hl ⊢
    by_cases c1 : spCheck l = 0
    rotate_left
    · rw [if_neg c1] at h0; exact absurd h0 c1
    rw [if_pos c1] at h0 hc hl ⊢
    by_cases c2 : cntN l = d.length
    rotate_left
    · rw [if_neg c2] at h0; cases h0
    rw [if_pos c2] at h0 hc hl ⊢
    cases hs : sumsFrom 0 d with
    | none => rw [hs] at h0; cases h0
    | some c =>
      rw [hs] at h0 hc hl
      simp only at h0 hc hl ⊢
      by_cases c3 : c.any (fun x => decide (x < 0)) = true
      · rw [if_pos c3] at h0; cases h0
      rw [if_neg c3] at hc hl ⊢
      have hr := rises_of_right c1
      have hf : ∀ p ∈ List.zipWith (fun p x => (⟨p, x⟩ : Pr)) (plN 0 l) c, -1048576 ≤ p.f0 ∧ p.f0 ≤ 1048576 := by
        intro y hy
        have : y.f0 ∈ plN 0 l := by
          obtain ⟨i, hi, rfl⟩ := List.mem_iff_getElem.1 hy
          simp only [List.getElem_zipWith]; exact List.getElem_mem _
        exact rises_i64 hr _ this
      refine ⟨⟨fun p hp => ?_, by omega⟩, hl, fun p hp => ?_, zip_ups _ _ (rises_ups _ _ hr).1⟩
      · have h1 := hf p hp; have h2 := hc p hp; exact ⟨⟨by omega, by omega⟩, ⟨by omega, by omega⟩⟩
      · have h1 := hf p hp; have h2 := hc p hp; exact ⟨⟨by omega, by omega⟩, h2⟩
  · have : (sideRes l d).1 = [] := by
      unfold sideRes at h0 ⊢
      by_cases c1 : spCheck l = 0
      · rw [if_pos c1] at h0 ⊢
        by_cases c2 : cntN l = d.length
        · rw [if_pos c2] at h0 ⊢
          cases hs : sumsFrom 0 d with
          | none => rfl
          | some c =>
            rw [hs] at h0
            simp only at h0 ⊢
            by_cases c3 : c.any (fun x => decide (x < 0)) = true
            · rw [if_pos c3]
            · rw [if_neg c3] at h0; exact absurd rfl h0
        · rw [if_neg c2]
      · rw [if_neg c1]
    rw [this]; exact RowOK.nil
theorem openR_row {h : Hi} (hw : wfH h) : RowOK (openR h).1 ∧ RowOK (openR h).2.1 := by
  obtain ⟨-, -, -, -, -, -, -, h7, h8, -⟩ := hw
  have a := sideRes_row (l := h.f5) h7
  have b := sideRes_row (l := h.f6) h8
  unfold openR openRes
  repeat' split
  all_goals first | exact ⟨a, b⟩ | exact ⟨RowOK.nil, RowOK.nil⟩
end Go.Proofs.Ytfbjjbbhnmoolaa.P
