/- FhistFloats: the part that this text bears of the proof that the statement answers true for every input. No condition. -/
import Derived.Test.YtfbjjbbhnmoolaaProg
import Derived.Below
import Derived.Deep.Draws
import Derived.Deep.AppendLies
import Derived.Maps.AppendAt
import Derived.OwnWalk
import Derived.Laws.BytesArg
import Derived.Laws.MakeOwn
import Derived.Laws.OwnMore
import Derived.Deep.OwnRows
import Derived.Tactics
import Derived.Lib.ConvBytes
import Derived.Laws.Slices
import Derived.WalkKit
import Derived.KernelRfl
import Derived.RowKit3
import Derived.Deep.LoopGhost
import Derived.Deep.QuietTactic
import Derived.BigQuiet
import Derived.WideLaws
import Derived.Deep.DeepCutAuto
import Derived.Deep.CutBlock
import Derived.Deep.RegionHeld3
import Derived.Laws.Rows
import Derived.Lib.AppendStr
import Derived.ArgAppend
import Derived.Laws.IdiomCopy
import Derived.OrdersHeld
import Derived.Laws.BitsLemmas
import Derived.RowKit
import Derived.Deep.Slices
import Derived.ChangeArms
import Derived.Shelf.Abstract
import Derived.WalkSpells
import Derived.RangeFuncNested
import Derived.RangeFuncBound
import Derived.RangeFuncCalls
import Derived.RangeFuncLeaves
import Derived.RangeFuncBox
import Derived.OwnWalkIn
import Derived.TacticsInMore
import Derived.LoopNIn
import Derived.LoopIn
import Derived.RegionIn
import Derived.Sort.QuietTacIn
import Derived.Deep.RegionWith
import Derived.Laws.Externs
import Derived.Laws.BitsAllLaws
import Derived.Laws.StructEq
import Derived.Shelf.Spec.BitsCarry
import Derived.Test.YtfbjjbbhnmoolaaQFhistFloatsWWords
import Derived.Test.YtfbjjbbhnmoolaaQFhistFloatsWLast
import Derived.Test.YtfbjjbbhnmoolaaQFhistFloatsWTab
import Derived.Test.YtfbjjbbhnmoolaaQFhistFloatsWFour
import Derived.Test.YtfbjjbbhnmoolaaQFhistFloatsWQPut
import Derived.Test.YtfbjjbbhnmoolaaQFhistFloatsWApart
import Derived.Test.YtfbjjbbhnmoolaaQFhistFloatsWArr
import Derived.Test.YtfbjjbbhnmoolaaQFhistFloatsWZeros
import Derived.Test.YtfbjjbbhnmoolaaQFhistFloatsWFoot
import Derived.Test.YtfbjjbbhnmoolaaQFhistFloatsWKept
import Derived.Test.YtfbjjbbhnmoolaaQFhistFloatsWShare
import Derived.Test.YtfbjjbbhnmoolaaQFhistFloatsWN
import Derived.Test.YtfbjjbbhnmoolaaQFhistFloatsWFootNe
import Derived.Test.YtfbjjbbhnmoolaaQFhistFloatsWAt
import Derived.Test.YtfbjjbbhnmoolaaQFhistFloatsWEqStruct
import Derived.Test.YtfbjjbbhnmoolaaQFhistFloatsWRepsOne
import Derived.Test.YtfbjjbbhnmoolaaQFhistFloatsWInv
import Derived.Test.YtfbjjbbhnmoolaaQFhistFloatsWInvWords
import Derived.Test.YtfbjjbbhnmoolaaQFhistFloatsWGuard
import Derived.Test.YtfbjjbbhnmoolaaQFhistFloatsWNEv
import Derived.Test.YtfbjjbbhnmoolaaQFhistFloatsWMore
import Derived.Test.YtfbjjbbhnmoolaaRows
import Derived.Test.YtfbjjbbhnmoolaaQFhistFloats0
set_option linter.unusedVariables false
set_option linter.unusedSimpArgs false
namespace Go.Proofs.Ytfbjjbbhnmoolaa.P
open Go.RowKit Go.Shelf Go.Proofs.YtfbjjbbhnmoolaaW.PrintWords Go.Proofs.YtfbjjbbhnmoolaaW.PrintLast Go.Proofs.YtfbjjbbhnmoolaaW.PrintMore
attribute [local go_sem] Oper.semAt_some
def runAt : Int → Nat → List Int
  | _, 0 => []
  | a, n + 1 => a :: runAt (wrap64 (a + 1)) n
def runEnd : Int → Nat → Int
  | a, 0 => a
  | a, n + 1 => runEnd (wrap64 (a + 1)) n
theorem runAt_snoc : ∀ (n : Nat) (a : Int), runAt a (n + 1) = runAt a n ++ [runEnd a n]
  | 0, _ => rfl
  | n + 1, a => by
    show a :: runAt (wrap64 (a + 1)) (n + 1) = a :: runAt (wrap64 (a + 1)) n ++ [runEnd (wrap64 (a + 1)) n]
    rw [runAt_snoc n]; rfl
theorem runEnd_snoc : ∀ (n : Nat) (a : Int), runEnd a (n + 1) = wrap64 (runEnd a n + 1)
  | 0, _ => rfl
  | n + 1, a => by
    show runEnd (wrap64 (a + 1)) (n + 1) = wrap64 (runEnd (wrap64 (a + 1)) n + 1)
    rw [runEnd_snoc n]
theorem runAt_length : ∀ (n : Nat) (a : Int), (runAt a n).length = n
  | 0, _ => rfl
  | n + 1, a => by show (runAt (wrap64 (a + 1)) n).length + 1 = n + 1; rw [runAt_length n]
def placesAt : Int → List S86 → List Int
  | _, [] => []
  | a, s :: r => runAt (wrap64 (a + s.f0)) s.f1.toNat ++ placesAt (runEnd (wrap64 (a + s.f0)) s.f1.toNat) r
def endAt : Int → List S86 → Int
  | a, [] => a
  | a, s :: r => endAt (runEnd (wrap64 (a + s.f0)) s.f1.toNat) r
theorem placesAt_snoc (s : S86) : ∀ (l : List S86) (a : Int), placesAt a (l ++ [s]) = placesAt a l ++ runAt (wrap64 (endAt a l + s.f0)) s.f1.toNat
  | [], a => by simp [placesAt, endAt]
  | x :: l, a => by simp [placesAt, endAt, placesAt_snoc s l]
theorem endAt_snoc (s : S86) : ∀ (l : List S86) (a : Int), endAt a (l ++ [s]) = runEnd (wrap64 (endAt a l + s.f0)) s.f1.toNat
  | [], a => by simp [endAt]
  | x :: l, a => by simp [endAt, endAt_snoc s l]
theorem placesAt_take_le (l : List S86) (k : Nat) : (placesAt 0 (l.take k)).length ≤ (placesAt 0 l).length := by
  have : ∀ (l r : List S86) (a : Int), (placesAt a l).length ≤ (placesAt a (l ++ r)).length := by
    intro l
    induction l with
    | nil => intro r a; simp [placesAt]
    | cons x l ih => intro r a; simp [placesAt]; exact ih _ _
  have h := this (l.take k) (l.drop k) 0
  rwa [List.take_append_drop] at h
theorem placesAt_prefix (l r : List S86) : placesAt 0 l <+: placesAt 0 (l ++ r) := by
  have : ∀ (l r : List S86) (a : Int), placesAt a l <+: placesAt a (l ++ r) := by
    intro l
    induction l with
    | nil => intro r a; simp [placesAt]
    | cons x l ih => intro r a; simp only [placesAt, List.cons_append]; exact (List.prefix_append_right_inj _).2 (ih _ _)
  exact this l r 0
def numd (ps : List Int) : List (Int × Int) := ps.zipIdx.map fun p => (((p.2 : Nat) : Int), p.1)
theorem numd_snoc (ps : List Int) (p : Int) : numd (ps ++ [p]) = numd ps ++ [((ps.length : Int), p)] := by
  simp [numd, List.zipIdx_append]
theorem numd_length (ps : List Int) : (numd ps).length = ps.length := by simp [numd]
theorem numd_prefix {a b : List Int} (h : a <+: b) : numd a <+: numd b := by
  obtain ⟨c, rfl⟩ := h
  unfold numd
  rw [List.zipIdx_append, List.map_append]
  exact List.prefix_append _ _
def KeepR (n0 n1 : Nat) (W W' : World) : Prop := W.heap.size ≤ W'.heap.size ∧ ∀ k, n0 ≤ k → k < n1 → W'.heap[k]? = W.heap[k]?
theorem KeepR.refl (n0 n1 : Nat) (W : World) : KeepR n0 n1 W W := ⟨Nat.le_refl _, fun _ _ _ => rfl⟩
theorem KeepR.trans {n0 n1 : Nat} {A B C : World} (h : KeepR n0 n1 A B) (k : KeepR n0 n1 B C) : KeepR n0 n1 A C := ⟨Nat.le_trans h.1 k.1, fun i h0 h1 => (k.2 i h0 h1).trans (h.2 i h0 h1)⟩
theorem KeepR.put {n0 n1 : Nat} {w : World} (hn : n1 ≤ w.heap.size) (W : World) (l : Nat) (o o' : Obj) (hl : w.heap.size ≤ l) (h : W.heap[l]? = some o) (_ : o.isCells = false) (_ : o.isWalk = false) : KeepR n0 n1 W (W.putObj l o') := by
  have hg := grownBy_putObj' W l o'
  refine ⟨hg.size, fun k h0 h1 => hg.block k ?_ (fun e => by injection e with e; omega)⟩
  have := (Array.getElem?_eq_some_iff.1 h).1
  omega
theorem KeepR.of_below {n0 n1 : Nat} {B : Nat} {W W' : World} (h : Below B W W') (hn : n1 ≤ B) : KeepR n0 n1 W W' := ⟨h.size, fun k _ h1 => h.block k (by omega)⟩
def HoldsSp (n0 n1 Bn : Nat) (v : Value) (l : List S86) (W : World) : Prop :=
  (n0 ≤ Bn ∧ Bn < n1) ∧ n1 ≤ W.heap.size ∧ W.heap[Bn]? = some (.cells #[v] 23 (0, 0)) ∧ Kd.R k86 86 W n0 (fun k => n0 ≤ k ∧ k < n1) v l
theorem HoldsSp.keep {n0 n1 Bn : Nat} {v : Value} {l : List S86} {W W' : World} (h : HoldsSp n0 n1 Bn v l W) (k : KeepR n0 n1 W W') : HoldsSp n0 n1 Bn v l W' :=
  ⟨h.1, Nat.le_trans h.2.1 k.1, (k.2 Bn h.1.1 h.1.2).trans h.2.2.1, Kd.R_move h.2.2.2 (fun q hq => k.2 q hq.1 hq.2)⟩
set_option maxRecDepth 100000 in
set_option maxHeartbeats 4000000 in
theorem all1_in (n : Nat) (hn : 1 ≤ n) (L n0 n1 Bn : Nat) (v : Value) (l : List S86) (k : Nat) (hck : span_Check.f k l = some 0) (hN : (placesAt 0 l).length ≤ 4611686018427387904) (J Jx : List (Int × Int) → World → Prop)
    (hJ : ∀ s W W', J s W → W.grownBy W' none → J s W')
    (hY : ∀ pre x W, J pre W → pre.length < (placesAt 0 l).length → YieldAt Fence.wide (n - 1) Try.prog L #[.int .i64 x.1, .int .i64 x.2] W fun e W' =>
      (e = .returned (.bool true) ∧ J (pre ++ [x]) W' ∧ KeepR n0 n1 W W') ∨ (e = .returned (.bool false) ∧ Jx (pre ++ [x]) W'))
    (W : World) (hS : HoldsSp n0 n1 Bn v l W) (h0 : J [] W) :
    CallsIn Fence.wide n Try.prog 150 #[.func (.yield L) #[] #[], .pointer (some ⟨Bn, 0, none⟩)] W fun e W' => (∃ v, e = .returned v) ∧
      ((∃ ys, ys = numd (placesAt 0 l) ∧ J ys W') ∨ (∃ pre, pre <+: numd (placesAt 0 l) ∧ Jx pre W')) := by
  have hu := Try.underlying86
  have hf : Fence.wide.fn 104 := trivial
  obtain ⟨A, c, rfl, hlc, hC⟩ := Kd.R_reads hS.2.2.2
  have hcell : W.cell? ⟨Bn, 0, none⟩ = some (.slice A l.length c) := by
    have := blk_cell (i := 0) hS.2.2.1
    rw [this]; rfl
  have hm : l.length ≤ 9223372036854775807 := hC.2.1
  have HCk := Aside0.mk (span_Check.calls k A c l 0 W hC hlc hck)
  have HJ := Aside0.mk hJ
  have HY := Aside0.mk hY
  have HS := Aside0.mk hS
  have H0 := Aside0.mk h0
  clear hJ hY hS h0 hC
  refine callsIn_of_wp Try.func150 rfl trivial ?_ rfl
  simp only [Try.ntmps150, List.size_toArray, List.length_cons, List.length_nil, Nat.reduceAdd, Nat.reduceSub, Array.replicate_succ, Array.replicate_zero, List.push_toArray, List.append_toArray, List.nil_append, List.cons_append]
  gi_wp2_with (gi_at_call 104; refine (callsIn_wide.2 HCk.out).mono ?_; rintro e w1 ⟨rfl, hb⟩; have HB := Aside0.mk hb; have hcell1 := (hb.cell (World.block_lt_of_cell? W _ hcell)).trans hcell; clear hb hcell)
  have HS1 := Aside0.mk (HS.out.keep (KeepR.of_below HB.out HS.out.2.1))
  have H1 := Aside0.mk (HJ.out _ _ _ H0.out (grown_of_below HB.out none))
  clear HS H0 HB HCk
  gi_loopw [3, 4, 12] (fun s3 s4 s12 wr => ∃ kk : Nat, kk ≤ l.length ∧ s12 = .int .i64 kk ∧ s3 = .int .i64 (endAt 0 (l.take kk)) ∧ s4 = .int .i64 ((placesAt 0 (l.take kk)).length : Int) ∧ Aside0 (HoldsSp n0 n1 Bn (.slice A l.length c) l wr) ∧ Aside0 (J (numd (placesAt 0 (l.take kk))) wr)) (fun _ _ s12 _ => l.length - (intOf s12).toNat)
  case atStart => exact ⟨0, Nat.zero_le _, rfl, by simp [endAt], by simp [placesAt], HS1, by simpa [placesAt, numd] using H1⟩
  case round =>
    obtain ⟨kk, hkk, rfl, rfl, rfl, HS, HJ0⟩ := hrel
    clear HS1 H1
    by_cases hlt : kk < l.length
    · have hlti : (kk : Int) < (l.length : Int) := by omega
      have hC := (Kd.R_reads' HS.out.2.2.2).2.2
      obtain ⟨ad, e1, hx0, hx1⟩ := at_T86 hC kk (by omega) (by omega)
      cases e1
      clear hC
      have hrd : rd_T86 l (kk : Int) = l[kk] := by unfold rd_T86; simp [List.getD, hlt]
      rw [hrd, Int.toNat_natCast] at hx0 hx1
      have HT := Aside0.mk (List.take_succ_eq_append_getElem hlt)
      generalize l[kk] = y at hx0 hx1 HT hrd
      clear hrd
      obtain ⟨wo, rfl⟩ : ∃ wo : World, wo = wr := ⟨_, rfl⟩
      have hple : (placesAt 0 (l.take kk)).length ≤ 4611686018427387904 := Nat.le_trans (placesAt_take_le l kk) hN
      have HP1 := Aside0.mk (placesAt_snoc y (l.take kk) 0)
      have HE1 := Aside0.mk (endAt_snoc y (l.take kk) 0)
      have HLE : Aside0 ((placesAt 0 (l.take kk)).length + y.f1.toNat ≤ (placesAt 0 l).length ∧ placesAt 0 (l.take kk) ++ runAt (wrap64 (endAt 0 (l.take kk) + y.f0)) y.f1.toNat <+: placesAt 0 l) := by
        have h := placesAt_prefix (l.take (kk + 1)) (l.drop (kk + 1))
        rw [List.take_append_drop, HT.out, HP1.out] at h
        refine ⟨⟨?_, h⟩⟩
        have := h.length_le
        rwa [List.length_append, runAt_length] at this
      rw [← HT.out] at HP1 HE1
      clear HT
      generalize endAt 0 (l.take kk) = at0 at HP1 HE1 HLE
      generalize placesAt 0 (l.take kk) = ps at HP1 HLE HJ0 hple
      have HS0 := Aside0.mk (HS.out.keep (KeepR.of_below (below_alloc (Below.refl _ wo) (.cells #[.int .i64 y.f0, .int .i64 y.f1] 86)) HS.out.2.1))
      have HJ1 := Aside0.mk (HJ.out _ _ _ HJ0.out (grown_of_below (below_alloc (Below.refl _ wo) (.cells #[.int .i64 y.f0, .int .i64 y.f1] 86)) none))
      clear HS HJ0
      gi_wp2
      gi_loopw [3, 4, 22] (fun s3 s4 s22 wr => ∃ i : Nat, i ≤ y.f1.toNat ∧ s22 = .int .i64 i ∧ s3 = .int .i64 (runEnd (wrap64 (at0 + y.f0)) i) ∧ s4 = .int .i64 ((ps.length : Int) + (i : Int)) ∧ Aside0 (HoldsSp n0 n1 Bn (.slice (some ad) l.length c) l wr) ∧ Aside0 (J (numd (ps ++ runAt (wrap64 (at0 + y.f0)) i)) wr)) (fun _ _ s22 _ => (y.f1 - intOf s22).toNat)
      case atStart => exact ⟨0, Nat.zero_le _, rfl, rfl, by simp, HS0, by simpa [runAt] using HJ1⟩
      case round =>
        obtain ⟨i, hi, rfl, rfl, rfl, HS, HJ0⟩ := hrel
        clear HS0 HJ1
        by_cases hli : (i : Int) < y.f1
        · have hlen : (ps ++ runAt (wrap64 (at0 + y.f0)) i).length = ps.length + i := by rw [List.length_append, runAt_length]
          have hlt2 : ps.length + i < (placesAt 0 l).length := by have := HLE.out.1; omega
          have hnx : (ps.length : Int) + (i : Int) + 1 ≤ 4611686018427387904 := by omega
          have hn0 : 0 ≤ (ps.length : Int) + (i : Int) := by omega
          have hy1 : y.f1 ≤ 4611686018427387904 := by have := HLE.out.1; omega
          obtain ⟨fn, tmps, assign, body, hy, hR⟩ := HY.out (numd (ps ++ runAt (wrap64 (at0 + y.f0)) i)) ((ps.length : Int) + (i : Int), runEnd (wrap64 (at0 + y.f0)) i) wr HJ0.out (by rw [numd_length, hlen]; exact hlt2)
          dsimp only at hy
          have HA := Aside0.mk (runAt_snoc i (wrap64 (at0 + y.f0)))
          have HE := Aside0.mk (runEnd_snoc i (wrap64 (at0 + y.f0)))
          have HNS := Aside0.mk (numd_snoc (ps ++ runAt (wrap64 (at0 + y.f0)) i) (runEnd (wrap64 (at0 + y.f0)) i))
          have HL := Aside0.mk hlen
          have HRR := Aside0.mk hR
          clear hR hlen HJ0
          gi_wp2
          refine HRR.out.mono ?_
          rintro e W3 (⟨rfl, hJ3, hk3⟩ | ⟨rfl, hJx3⟩)
          · have HJ3 := Aside0.mk hJ3
            have HS3 := Aside0.mk (HS.out.keep hk3)
            clear hJ3 hk3
            gi_wp2
            go_roundw
            case rel => 
              refine ⟨i + 1, by omega, by go_num, by rw [HE.out], by go_num, HS3, ⟨?_⟩⟩
              rw [HA.out, ← List.append_assoc, HNS.out, HL.out]
              exact HJ3.out
            case measure => simp [intOf]; omega
          · have HX := Aside0.mk hJx3
            clear hJx3
            gi_wp2
            refine bodyPost_ret (results_none rfl _ _ _) rfl ?_
            refine ⟨⟨_, rfl⟩, .inr ⟨_, ?_, HX.out⟩⟩
            have h1 := numd_prefix HLE.out.2
            have hi1 : i + 1 ≤ y.f1.toNat := by omega
            have h2 : ps ++ runAt (wrap64 (at0 + y.f0)) (i + 1) <+: ps ++ runAt (wrap64 (at0 + y.f0)) y.f1.toNat := by
              refine (List.prefix_append_right_inj _).2 ?_
              have : ∀ (m j : Nat) (a : Int), j ≤ m → runAt a j <+: runAt a m := by
                intro m
                induction m with
                | zero => intro j a hj; obtain rfl : j = 0 := by omega
                          exact List.prefix_rfl
                | succ m ih =>
                  intro j a hj
                  cases j with
                  | zero => exact List.nil_prefix
                  | succ j => exact (List.cons_prefix_cons).2 ⟨rfl, ih j _ (by omega)⟩
              exact this _ _ _ hi1
            have h3 := (numd_prefix h2).trans h1
            rw [HA.out, ← List.append_assoc, HNS.out, HL.out] at h3
            exact h3
        · have hie : i = y.f1.toNat := by omega
          have hli' : ¬ (i : Int) < y.f1 := hli
          gi_wp2
          go_roundw
          case rel =>
            refine ⟨kk + 1, by omega, by go_num, ?_, ?_, HS, ?_⟩
            · rw [HE1.out, hie]
            · rw [HP1.out, List.length_append, runAt_length, hie]; go_num
            · rw [HP1.out, ← hie]; exact HJ0
          case measure => simp [intOf]; omega
    · have hlti : ¬ (kk : Int) < (l.length : Int) := by omega
      have hk : l.take kk = l := List.take_of_length_le (by omega)
      have HK := Aside0.mk hk
      clear hk
      gi_wp2
      go_end0
      have hj := HJ0.out
      rw [HK.out] at hj
      exact ⟨⟨_, rfl⟩, .inl hj⟩
theorem all_in (n : Nat) (hn : 1 ≤ n) (A0 : Option Addr) (c0 : Nat) (l0 : List S86) (w : World) (hr0 : Kd.C k86 w A0 l0.length l0) (hc0 : l0.length ≤ c0) (hm : l0.length < 8796093022208) :
    CallsIn Fence.wide n Try.prog 129 #[.slice A0 l0.length c0] w fun e w' => ∃ (Bn : Nat) (v : Value), e = .returned (.func (.func 150) #[] #[.pointer (some ⟨Bn, 0, none⟩)]) ∧ HoldsSp w.heap.size w'.heap.size Bn v l0 w' ∧ Below w.heap.size w w' := by
  have hf : Fence.wide.fn 51 := trivial
  have HC := Aside0.mk (slices_Clone_span.calls A0 c0 l0 l0 w hr0 hc0 (by unfold slices_Clone_span.f; rw [if_pos hm]))
  clear hr0 hc0 hm
  refine callsIn_of_wp Try.func129 rfl trivial ?_ rfl
  simp only [Try.ntmps129, List.size_toArray, List.length_cons, List.length_nil, Nat.reduceAdd, Nat.reduceSub, Array.replicate_succ, Array.replicate_zero, List.push_toArray, List.append_toArray, List.nil_append, List.cons_append]
  gi_wp2_with (gi_at_call 51; refine (callsIn_wide.2 HC.out).mono ?_; rintro e w1 ⟨v, rfl, ho, hb⟩; have HO := Aside0.mk ho; have HB := Aside0.mk hb; obtain ⟨A1, c1, rfl⟩ := Kd.R_slice ho; clear ho hb)
  go_ret
  refine ⟨w1.heap.size, .slice A1 l0.length c1, rfl, ⟨⟨HB.out.size, by simp⟩, by simp, ?_, ?_⟩, below_then HB.out HB.out.size (below_alloc (Below.refl _ _) _)⟩
  · simpa using blk_new w1 (.cells #[.slice A1 l0.length c1] 23)
  · refine Kd.R_mono (Kd.R_bound (Kd.R_below HO.out (below_alloc (Below.refl _ _) _))) (fun k hk => ⟨hk.2.1, hk.2.2.1⟩)
theorem all_stops (n : Nat) (hn : 1 ≤ n) (n0 Bn : Nat) (v : Value) (l : List S86) (k : Nat) (hck : span_Check.f k l = some 0) (hN : (placesAt 0 l).length ≤ 4611686018427387904) (w : World) (hS : HoldsSp n0 w.heap.size Bn v l w) :
    SeqStopsK Fence.wide n Try.prog 150 #[.pointer (some ⟨Bn, 0, none⟩)] (fun x : Int × Int => #[Value.int .i64 x.1, .int .i64 x.2]) (KeepR n0 w.heap.size) (fun ys => ys = numd (placesAt 0 l)) (fun pre => pre <+: numd (placesAt 0 l)) (placesAt 0 l).length w := fun L J Jx W hW hJ _ hY h0 =>
  all1_in n hn L n0 w.heap.size Bn v l k hck hN J Jx (fun s A B hs hg => hJ s A B none hs hg (fun r e => by cases e)) hY W (hS.keep (KeepR.of_below hW (Nat.le_refl _))) h0
end Go.Proofs.Ytfbjjbbhnmoolaa.P
namespace Go.Proofs.Ytfbjjbbhnmoolaa.P
open Go.RowKit Go.Shelf Go.Proofs.YtfbjjbbhnmoolaaW.PrintWords Go.Proofs.YtfbjjbbhnmoolaaW.PrintLast Go.Proofs.YtfbjjbbhnmoolaaW.PrintMore
attribute [local go_sem] Oper.semAt_some
def span_Places.f (k : Nat) (l0 : List S86) : Option (List Int × Int) :=
  (span_Check.f k l0).bind fun e => if e = 0 then (if l0.length < 8796093022208 ∧ (placesAt 0 l0).length < 17592186044416 then some (placesAt 0 l0, 0) else none) else some ([], e)
theorem numd_map (ps : List Int) : (numd ps).map (fun x => Value.int .i64 x.2) = encs (Value.int .i64) ps := by
  unfold numd encs
  rw [List.map_map]
  have : ∀ (ps : List Int) (i : Nat), (ps.zipIdx i).map ((fun x : Int × Int => Value.int .i64 x.2) ∘ fun p : Int × Nat => (((p.2 : Nat) : Int), p.1)) = ps.map (Value.int .i64) := by
    intro ps
    induction ps with
    | nil => intro i; rfl
    | cons p ps ih => intro i; simp only [List.zipIdx_cons, List.map_cons, ih, Function.comp]
  exact this ps 0
theorem keepR_appended {n0 n1 B : Nat} {W w1 : World} {e : TypeId} {size k : Nat} {v v' : Value} {xs : List Value} {tmp : Obj} (hB : B < n0) (hn : n1 ≤ W.heap.size)
    (hrow : W.ownsRow n1 e size v k xs) (hgrow : (W.alloc tmp).grownBy w1 v.ownBlock) : KeepR n0 n1 W (w1.setCell ⟨B, 0, none⟩ v') := by
  have hs := hgrow.size
  simp at hs
  refine ⟨by simp [World.setCell]; omega, fun q h0 h1 => ?_⟩
  rw [Below.heap_setCell w1 ⟨B, 0, none⟩ v' q (by show q ≠ B; omega), hgrow.block q (by simp; omega) (fun e' => ?_), Below.heap_alloc W tmp q (by omega)]
  have := own_base hrow q e'.symm
  omega
set_option maxRecDepth 100000 in
set_option maxHeartbeats 4000000 in
theorem span_Places.calls (k : Nat) (A0 : Option Addr) (c0 : Nat) (l0 : List S86) (r1 : List Int) (r2 : Int) (w : World) (hr0 : Kd.C k86 w A0 l0.length l0) (hc0 : l0.length ≤ c0) (h : span_Places.f k l0 = some (r1, r2)) :
    Calls Try.prog 152 #[.slice A0 l0.length c0] w fun e w' => ∃ v0_ : Value, e = .returned (.tuple #[v0_, .int .i64 r2]) ∧ Kd.R (Kd.int .i64) 3 w' w.heap.size (fun _ => True) v0_ r1 ∧ Below w.heap.size w w' := by
  obtain ⟨e0, hck, h2⟩ := Option.bind_eq_some_iff.1 h
  clear h
  have HCk := Aside0.mk (span_Check.calls k A0 c0 l0 e0 w hr0 hc0 hck)
  by_cases he : e0 = 0
  · subst he
    rw [if_pos rfl] at h2
    obtain ⟨hm, h3⟩ := of_ite_some h2
    injection h3 with h4 h5
    subst h4; subst h5
    clear h2
    refine (callsIn_wide (n := 5)).1 ?_
    have hf0 : Fence.wide.fn 104 := trivial
    have hf1 : Fence.wide.fn 129 := trivial
    have HR := Aside0.mk hr0
    have HM := Aside0.mk hm
    obtain ⟨i0, hi, hz0, hz1, hz2⟩ := info_parts info3
    clear hr0 hm
    refine callsIn_of_wp_marks Try.func152 rfl trivial ?_ rfl
    simp only [Try.ntmps152, List.size_toArray, List.length_cons, List.length_nil, Nat.reduceAdd, Nat.reduceSub, Array.replicate_succ, Array.replicate_zero, List.push_toArray, List.append_toArray, List.nil_append, List.cons_append]
    gi_wp2_with (first | (gi_at_call 104; refine (callsIn_wide.2 HCk.out).mono ?_; rintro e w1 ⟨rfl, hb⟩; have HB := Aside0.mk hb; clear hb HCk) | (gi_at_call 129; refine (all_in _ (by omega) A0 c0 l0 _ (Kd.C_below (Kd.C_below HR.out HB.out) (below_alloc (Below.refl _ _) _)) hc0 HM.out.1).mono ?_; rintro e w2 ⟨Bn, v, rfl, hS, hb2⟩; have HS := Aside0.mk hS; have HB2 := Aside0.mk hb2; clear hS hb2))
    have hsz : w1.heap.size + 1 ≤ w2.heap.size := by have := HB2.out.size; simpa using this
    have hB2 : w2.heap[w1.heap.size]? = some (.cells #[.slice none 0 0] 47 (0, 0)) := (HB2.out.block _ (by simp)).trans (by simpa using blk_new w1 (.cells #[.slice none 0 0] 47))
    have hBW : Below w.heap.size w w2 := below_then (below_then HB.out HB.out.size (below_alloc (Below.refl _ _) _)) (by have := HB.out.size; simp; omega) HB2.out
    have hS2 : HoldsSp (w1.heap.size + 1) w2.heap.size Bn v l0 w2 := by simpa using HS.out
    refine wpIn_rangeFunc_ownG rfl (by omega) (gf := 150) (lb := #[.pointer (some ⟨Bn, 0, none⟩)]) rfl trivial (enters_of Try.func150 (by kernel_rfl) rfl)
      (all_stops _ (by omega) (w1.heap.size + 1) Bn v l0 k hck (by have := HM.out.2; omega) w2 hS2) KeepR.trans (KeepR.put (Nat.le_refl _)) (Below.refl _ _) (fun _ => rfl)
      (fun pre W => (∃ v, Boxed W w1.heap.size 47 v ∧ W.ownsRow w2.heap.size 3 1 v pre.length (pre.map fun x => Value.int .i64 x.2) ∧ True) ∧ (Below w.heap.size w W ∧ w2.heap.size ≤ W.heap.size))
      (fun _ _ _ => False)
      (OwnFrom.and (Own.from (holdsRow_own w2.heap.size w1.heap.size 47 3 1 (fun pre : List (Int × Int) => pre.length) (fun pre => pre.map fun x => Value.int .i64 x.2) (fun pre v => True)) _) (OwnFrom.and (ownFrom_below (Nat.le_refl _) (by have := HB.out.size; omega)) (fun s A B row hs hg hr => Nat.le_trans hs hg.size)))
      (fun _ _ _ _ _ hs _ _ => hs)
      ⟨⟨_, hB2, World.ownsRow_nil _ _ _ _, trivial⟩, hBW, Nat.le_refl _⟩
      (fun x => { tmps := #[.slice A0 l0.length c0, undef, .slice none 0 0, .int .i64 0, .int .i64 0, .pointer (some ⟨w1.heap.size, 0, none⟩), undef, .int .i64 x.2, .slice A0 l0.length c0, .int .i64 0, .int .i64 0, .bool false, undef, .slice A0 l0.length c0, .func (.func 150) #[] #[.pointer (some ⟨Bn, 0, none⟩)], .int .i64 x.1, .int .i64 x.2, undef, undef, undef, undef, undef], defers := [] }) ?assign ?body ?done ?stop
    case assign =>
      intro l x W K hK
      gi_wp2
      exact hK
    case body =>
      rintro l pre x W ⟨⟨v, hv, hrow, _⟩, hB, hW2⟩ hlt
      have hc := hv.cell
      have hL := HM.out.2
      gi_wp2_with (gi_at_builtin; refine wpListIn_append_own _ rfl _ _ 47 rfl w2.heap.size 3 i0 (.int .i64 0) 1 8 Try.underlying47 hi hz0 hz1 hz2 rfl (by decide) _ _ _ rfl (hrow.alloc _) ⟨W.heap.size, 0, none⟩ 1 1 [.int .i64 x.2] rfl rfl (cell_one_new _ _ _) (by simp [Value.oneCell']) (by unfold maxLen; omega) (by omega) (by simp; omega) ?_; intro v' w3 hown' hgrow _; obtain ⟨g', cap', rfl⟩ := ownsRow_succ hown'; have hkr := keepR_appended (v' := .slice (some ⟨g', 0, none⟩) (pre.length + 1) cap') (B := w1.heap.size) (n0 := w1.heap.size + 1) (Nat.lt_succ_self _) hW2 hrow hgrow; obtain ⟨hv1, hv2, hr2, hk2, hb2⟩ := hv.appended (n₀ := w1.heap.size) (by decide) (own_weaken hrow (by omega)) (by omega) (Nat.le_refl _) (own_weaken hown' (by omega)) hgrow; have hr3 := hown'.kept (grownBy_setCell' w3 w1.heap.size (.slice (some ⟨g', 0, none⟩) (pre.length + 1) cap')) (.inr (hv1.not_row (by decide) hown').symm); have hc1 := hv1.cell; have hf1 := hv1.frozen)
      exact ⟨hk2.from _, hkr, ⟨⟨_, hv2, by simpa using hr3, trivial⟩, hB.trans (hb2.mono HB.out.size), Nat.le_trans hW2 hkr.1⟩⟩
    case done =>
      rintro D ys W hD rfl ⟨⟨v, hv, hrow, _⟩, hB, hW2⟩ hK
      have hc := hv.cell
      gi_wp2
      refine ⟨by simp, .inl ⟨_, _, rfl, run_takeDeferred hK, ?_⟩⟩
      have hr2 := ownsRow_putObj hrow (.deferred none) hK rfl
      refine ⟨_, results_tmp2 rfl _ _ _, v, rfl, ?_, hB.trans (belowK_b (w := w2) (by have := HB.out.size; omega) W D _ _ hD hK rfl rfl)⟩
      rw [numd_length, numd_map] at hr2
      exact Kd.R_lower (Kd.R_of_own (enc := Value.int .i64) (h1 := fun _ => rfl) hr2 (fun _ _ => trivial)) (by have := HB.out.size; omega)
    case stop =>
      rintro D c pre W _ _ h _
      exact h.elim
  · rw [if_neg he] at h2
    have h3 := Option.some.inj h2
    injection h3 with h4 h5
    subst h4; subst h5
    clear h2
    have he1 : (e0 == 0) = false := beq_eq_false_iff_ne.2 he
    have he2 : (e0 != 0) = true := bne_iff_ne.2 he
    go_enter Try.func152, Try.ntmps152
    go_wp2_with (go_at_call 104; refine HCk.out.mono ?_; rintro e w1 ⟨rfl, hb⟩; have HB := Aside0.mk hb; clear hb)
    go_ret2
    exact ⟨_, rfl, Kd.R_nil _ _ _ _ _, HB.out⟩
end Go.Proofs.Ytfbjjbbhnmoolaa.P
namespace Go.Proofs.Ytfbjjbbhnmoolaa.P
open Go.RowKit Go.Proofs.YtfbjjbbhnmoolaaW.PrintWords Go.Proofs.YtfbjjbbhnmoolaaW.PrintLast Go.Proofs.YtfbjjbbhnmoolaaW.PrintMore
abbrev Sp := S86
abbrev Rsp := S117
def wfSp (s : Sp) : Prop := i64 s.f0 ∧ i64 s.f1
def wfSps (l : List Sp) : Prop := ∀ s ∈ l, wfSp s
theorem rdSp_at {l : List Sp} {i : Nat} (h : i < l.length) : rd_T86 l (i : Int) = l[i] := by unfold rd_T86; simp [List.getD, h]
def toR (s : Sp) : Rsp := ⟨s.f0, s.f1⟩
theorem in_eq (p : Int) : span_in.f p = some (decide (-1048576 ≤ p ∧ p ≤ 1048576)) := by
  unfold span_in.f
  by_cases h : p ≥ -1048576
  · rw [if_pos h]; congr 1; rw [decide_eq_decide]; omega
  · rw [if_neg h, decide_eq_false (by omega)]
def oneRight (first : Bool) (a n : Int) (s : Sp) : Prop :=
  0 ≤ s.f1 ∧ s.f1 ≤ 4096 ∧ s.f0 ≤ 2097152 ∧ (if first = true then -1048576 ≤ s.f0 else 0 ≤ s.f0) ∧ -1048576 ≤ a + s.f0 ∧ a + s.f0 ≤ 1048576 ∧ a + s.f0 + max (s.f1 - 1) 0 ≤ 1048576 ∧ n + s.f1 ≤ 4096
instance (f : Bool) (a n : Int) (s : Sp) : Decidable (oneRight f a n s) := by unfold oneRight; exact inferInstance
def spRight : Bool → Int → Int → List Sp → Bool
  | _, _, _, [] => true
  | f, a, n, s :: r => decide (oneRight f a n s) && spRight false (a + s.f0 + s.f1) (n + s.f1) r
theorem mx_max (a b : Int) : mx a b = max a b := by unfold mx; omega
theorem right_j1 (k : Nat) (a n x0 x1 : Int) (l : List Sp) (L i : Int) (ha : -1048576 ≤ a ∧ a ≤ 1048577) (hn : 0 ≤ n ∧ n ≤ 4096) (h0 : -1048576 ≤ x0 ∧ x0 ≤ 2097152) (h1 : 0 ≤ x1 ∧ x1 ≤ 4096) :
    span_right.j1 (k + 1) a n l L i false x0 x1 = if -1048576 ≤ a + x0 ∧ a + x0 ≤ 1048576 ∧ a + x0 + max (x1 - 1) 0 ≤ 1048576 ∧ n + x1 ≤ 4096 then span_right.l0 k (a + x0 + x1) (n + x1) l L (wrap64 (i + 1)) else some false := by
  simp only [span_right.j1]
  rw [if_neg (by decide), wrap_id (x := a + x0) (by omega) (by omega), in_eq]
  simp only [Option.bind_some]
  by_cases c1 : -1048576 ≤ a + x0 ∧ a + x0 ≤ 1048576
  · rw [if_pos (by simpa using c1), wrap_id (x := x1 - 1) (by omega) (by omega), mx_max, wrap_id (x := a + x0 + max (x1 - 1) 0) (by omega) (by omega), in_eq]
    simp only [Option.bind_some]
    by_cases c2 : a + x0 + max (x1 - 1) 0 ≤ 1048576
    · rw [if_pos (by simp; omega), wrap_id (x := n + x1) (by omega) (by omega)]
      by_cases c3 : n + x1 ≤ 4096
      · rw [if_neg (by omega), if_pos ⟨c1.1, c1.2, c2, c3⟩, wrap_id (x := a + x0 + x1) (by omega) (by omega)]
      · rw [if_pos (by omega), if_neg (by omega)]
    · rw [if_neg (by simp; omega), if_neg (by omega)]
  · rw [if_neg (by simpa using c1), if_neg (by omega)]
theorem right_loop (l : List Sp) (hw : wfSps l) (hm : l.length ≤ 4611686018427387904) : ∀ (d k i : Nat) (a n : Int), l.length - i = d → 2 * d < k → i ≤ l.length → -1048576 ≤ a ∧ a ≤ 1048577 → 0 ≤ n ∧ n ≤ 4096 →
    span_right.l0 k a n l (l.length : Int) (i : Int) = some (spRight (decide (i = 0)) a n (l.drop i)) := by
  intro d
  induction d with
  | zero =>
    intro k i a n hd hk hi ha hn
    obtain ⟨k, rfl⟩ : ∃ m, k = m + 1 := ⟨k - 1, by omega⟩
    simp only [span_right.l0]
    rw [if_neg (by omega), drop_end (by omega)]; rfl
  | succ d ih =>
    intro k i a n hd hk hi ha hn
    obtain ⟨k, rfl⟩ : ∃ m, k = m + 2 := ⟨k - 2, by omega⟩
    have hlt : i < l.length := by omega
    have hs := hw _ (List.getElem_mem hlt)
    simp only [span_right.l0]
    rw [if_pos (by omega), if_pos (by omega), if_pos (by omega), rdSp_at hlt, drop_at hlt]
    generalize l[i] = s at hs
    have hbad : ¬ oneRight (decide (i = 0)) a n s → some false = some (spRight (decide (i = 0)) a n (s :: l.drop (i + 1))) := fun h => by simp only [spRight, decide_eq_false h, Bool.false_and]
    have hf : ∀ L' : Int, span_right.j1 (k + 1) a n l (l.length : Int) (i : Int) true s.f0 s.f1 = some false := fun _ => by simp only [span_right.j1]; simp
    have hf := hf 0
    have hgo : (-1048576 ≤ s.f0 ∧ s.f0 ≤ 2097152) → (0 ≤ s.f1 ∧ s.f1 ≤ 4096) → (if decide (i = 0) = true then -1048576 ≤ s.f0 else 0 ≤ s.f0) → span_right.j1 (k + 1) a n l (l.length : Int) (i : Int) false s.f0 s.f1 = some (spRight (decide (i = 0)) a n (s :: l.drop (i + 1))) := by
      intro h0 h1 h2
      rw [right_j1 k a n s.f0 s.f1 l _ _ ha hn h0 h1]
      by_cases c : -1048576 ≤ a + s.f0 ∧ a + s.f0 ≤ 1048576 ∧ a + s.f0 + max (s.f1 - 1) 0 ≤ 1048576 ∧ n + s.f1 ≤ 4096
      · rw [if_pos c, wrap_succ (by omega), ih k (i + 1) _ _ (by omega) (by omega) (by omega) (by omega) (by omega)]
        have : oneRight (decide (i = 0)) a n s := ⟨h1.1, h1.2, h0.2, h2, c.1, c.2.1, c.2.2.1, c.2.2.2⟩
        simp only [spRight, decide_eq_true this, Bool.true_and]
        rfl
      · rw [if_neg c]; exact hbad (fun h => c ⟨h.2.2.2.2.1, h.2.2.2.2.2.1, h.2.2.2.2.2.2.1, h.2.2.2.2.2.2.2⟩)
    by_cases c1 : s.f0 > 2097152
    · rw [if_pos c1, hf]; exact hbad (fun h => by have := h.2.2.1; omega)
    rw [if_neg c1]
    by_cases c2 : s.f1 < 0
    · rw [if_pos c2, hf]; exact hbad (fun h => by have := h.1; omega)
    rw [if_neg c2]
    by_cases c3 : s.f1 > 4096
    · rw [if_pos c3, hf]; exact hbad (fun h => by have := h.2.1; omega)
    rw [if_neg c3]
    by_cases c4 : s.f0 < 0
    · rw [if_pos c4]
      by_cases c5 : i = 0
      · subst c5
        rw [if_neg (by omega), in_eq]
        simp only [Option.bind_some]
        by_cases c6 : -1048576 ≤ s.f0 ∧ s.f0 ≤ 1048576
        · rw [decide_eq_true c6, Bool.not_true]; exact hgo (by omega) (by omega) (by simp; exact c6.1)
        · rw [decide_eq_false c6, Bool.not_false, hf]; exact hbad (fun h => by have h4 := h.2.2.2.1; rw [if_pos (by simp)] at h4; omega)
      · rw [if_pos (by omega), hf]; exact hbad (fun h => by have h4 := h.2.2.2.1; rw [if_neg (by simp [c5])] at h4; omega)
    · rw [if_neg c4]; exact hgo (by omega) (by omega) (by split <;> omega)
theorem right_eq (l : List Sp) (hw : wfSps l) (hm : l.length ≤ 4611686018427387904) (k : Nat) (hk : 2 * l.length < k) : span_right.f k l = some (spRight true 0 0 l) := by
  unfold span_right.f
  have := right_loop l hw hm l.length k 0 0 0 (by omega) hk (by omega) (by omega) (by omega)
  simpa using this
def spCheck (l : List Sp) : Int := if l.length > 1024 then 12 else if spRight true 0 0 l = true then 0 else 20
theorem check_eq (l : List Sp) (hw : wfSps l) (k : Nat) (hk : 2048 < k) : span_Check.f k l = some (spCheck l) := by
  unfold span_Check.f spCheck
  by_cases h : l.length > 1024
  · rw [if_pos (by omega), if_pos h]
  · rw [if_neg (by omega), if_neg h, right_eq l hw (by omega) k (by omega)]
    simp only [Option.bind_some]
    split <;> rfl
end Go.Proofs.Ytfbjjbbhnmoolaa.P
namespace Go.Proofs.Ytfbjjbbhnmoolaa.P
open Go.RowKit Go.Proofs.YtfbjjbbhnmoolaaW.PrintWords Go.Proofs.YtfbjjbbhnmoolaaW.PrintLast Go.Proofs.YtfbjjbbhnmoolaaW.PrintMore
def run : Int → Nat → List Int
  | _, 0 => []
  | a, n + 1 => a :: run (a + 1) n
theorem run_length : ∀ (n : Nat) (a : Int), (run a n).length = n
  | 0, _ => rfl
  | n + 1, a => by show (run (a + 1) n).length + 1 = n + 1; rw [run_length n]
theorem run_snoc : ∀ (n : Nat) (a : Int), run a (n + 1) = run a n ++ [a + n]
  | 0, a => by simp [run]
  | n + 1, a => by
    show a :: run (a + 1) (n + 1) = a :: run (a + 1) n ++ [a + ((n + 1 : Nat) : Int)]
    rw [run_snoc n]; simp; omega
def plN : Int → List Sp → List Int
  | _, [] => []
  | a, s :: r => run (a + s.f0) s.f1.toNat ++ plN (a + s.f0 + s.f1) r
def enN : Int → List Sp → Int
  | a, [] => a
  | a, s :: r => enN (a + s.f0 + s.f1) r
def cntN : List Sp → Int
  | [] => 0
  | s :: r => s.f1 + cntN r
theorem plN_snoc (s : Sp) : ∀ (l : List Sp) (a : Int), plN a (l ++ [s]) = plN a l ++ run (enN a l + s.f0) s.f1.toNat
  | [], a => by simp [plN, enN]
  | x :: l, a => by simp [plN, enN, plN_snoc s l]
theorem enN_snoc (s : Sp) : ∀ (l : List Sp) (a : Int), enN a (l ++ [s]) = enN a l + s.f0 + s.f1
  | [], a => by simp [enN]
  | x :: l, a => by simp [enN, enN_snoc s l]
theorem cntN_snoc (s : Sp) : ∀ (l : List Sp), cntN (l ++ [s]) = cntN l + s.f1
  | [] => by simp [cntN]
  | x :: l => by simp [cntN, cntN_snoc s l]; omega
theorem spRight_snoc (s : Sp) : ∀ (l : List Sp) (f : Bool) (a n : Int), spRight f a n (l ++ [s]) = (spRight f a n l && decide (oneRight (f && l.isEmpty) (enN a l) (n + cntN l) s))
  | [], f, a, n => by simp [spRight, enN, cntN]
  | x :: l, f, a, n => by
    simp only [List.cons_append, spRight, enN, cntN, spRight_snoc s l, List.isEmpty_cons, Bool.false_and, Bool.and_false, Bool.and_assoc, Int.add_assoc]
theorem spRight_pos : ∀ (l : List Sp) (f : Bool) (a n : Int), spRight f a n l = true → ∀ s ∈ l, 0 ≤ s.f1 ∧ s.f1 ≤ 4096
  | [], _, _, _, _, s, hs => by simp at hs
  | x :: l, f, a, n, h, s, hs => by
    simp only [spRight, Bool.and_eq_true, decide_eq_true_eq] at h
    rcases List.mem_cons.1 hs with rfl | hs
    · exact ⟨h.1.1, h.1.2.1⟩
    · exact spRight_pos l _ _ _ h.2 s hs
theorem plN_length : ∀ (l : List Sp) (a : Int), (∀ s ∈ l, 0 ≤ s.f1) → ((plN a l).length : Int) = cntN l
  | [], _, _ => rfl
  | s :: l, a, h => by
    have := plN_length l (a + s.f0 + s.f1) (fun x hx => h x (List.mem_cons_of_mem _ hx))
    have := h s (List.mem_cons_self ..)
    simp only [plN, cntN, List.length_append, run_length]
    omega
theorem runAt_run : ∀ (n : Nat) (a : Int), -4611686018427387904 ≤ a → a + n ≤ 4611686018427387904 → runAt a n = run a n ∧ runEnd a n = a + n
  | 0, a, _, _ => ⟨rfl, by simp [runEnd]⟩
  | n + 1, a, h0, h1 => by
    have h2 : a + 1 + (n : Int) ≤ 4611686018427387904 := by omega
    obtain ⟨e1, e2⟩ := runAt_run n (a + 1) (by omega) h2
    simp only [runAt, runEnd, run]
    rw [wrap_id (by omega) (by omega), e1, e2]
    exact ⟨rfl, by omega⟩
theorem placesAt_plN : ∀ (l : List Sp) (f : Bool) (a n : Int), spRight f a n l = true → placesAt a l = plN a l
  | [], _, _, _, _ => rfl
  | s :: l, f, a, n, h => by
    simp only [spRight, Bool.and_eq_true, decide_eq_true_eq] at h
    obtain ⟨h1, h2, h3, h4, h5, h6, h7, h8⟩ := h.1
    have he : ((s.f1.toNat : Nat) : Int) = s.f1 := by omega
    have hb := runAt_run s.f1.toNat (a + s.f0) (by omega) (by omega)
    simp only [placesAt, plN]
    rw [wrap_id (by omega) (by omega), hb.1, hb.2, he, placesAt_plN l _ _ _ h.2]
theorem cntN_le : ∀ (l : List Sp) (f : Bool) (a n : Int), spRight f a n l = true → n ≤ 4096 → n + cntN l ≤ 4096
  | [], _, _, _, _, h => by simp [cntN]; exact h
  | s :: l, f, a, n, h, _ => by
    simp only [spRight, Bool.and_eq_true, decide_eq_true_eq] at h
    have := cntN_le l _ _ _ h.2 h.1.2.2.2.2.2.2.2
    simp only [cntN]; omega
def rises : Int → List Int → Bool
  | _, [] => true
  | e, p :: r => decide (e ≤ p ∧ p ≤ 1048576) && rises (p + 1) r
def lowB (e : Int) (l : List Int) : Int := match l.getLast? with | none => e | some q => q + 1
theorem lowB_none {e : Int} {l : List Int} (h : l.getLast? = none) : lowB e l = e := by unfold lowB; rw [h]
theorem lowB_some {e q : Int} {l : List Int} (h : l.getLast? = some q) : lowB e l = q + 1 := by unfold lowB; rw [h]
theorem rises_snoc (p : Int) : ∀ (l : List Int) (e : Int), rises e (l ++ [p]) = (rises e l && decide (lowB e l ≤ p ∧ p ≤ 1048576))
  | [], e => (show (decide (e ≤ p ∧ p ≤ 1048576) && true) = (true && decide (e ≤ p ∧ p ≤ 1048576)) from Bool.and_comm _ _)
  | x :: l, e => by
    simp only [List.cons_append, rises, rises_snoc p l, Bool.and_assoc]
    congr 3
    cases l with
    | nil => rfl
    | cons y l => cases h : (y :: l).getLast? with
      | none => simp at h
      | some q => rw [lowB_some h, lowB_some (by rw [List.getLast?_cons_cons]; exact h)]
theorem rises_take_false {l : List Int} {i : Nat} (h : i < l.length) (hb : ¬ (lowB (-1048576) (l.take i) ≤ l[i] ∧ l[i] ≤ 1048576)) : rises (-1048576) l = false := by
  have e : l = l.take (i + 1) ++ l.drop (i + 1) := (List.take_append_drop _ _).symm
  have happ : ∀ (a b : List Int) (e : Int), rises e a = false → rises e (a ++ b) = false := by
    intro a
    induction a with
    | nil => intro b e h; simp [rises] at h
    | cons x a ih => intro b e h; simp only [List.cons_append, rises] at h ⊢; rcases Bool.and_eq_false_iff.1 h with h | h
                     · rw [h]; rfl
                     · rw [ih b _ h]; simp
  rw [e]
  apply happ
  rw [take_at h, rises_snoc, decide_eq_false hb]
  simp
def stepF (c : List Sp × Int) (p : Int) : List Sp × Int :=
  (if c.1 = [] ∨ p > c.2 then c.1 ++ [⟨p - c.2, 1⟩] else c.1.dropLast ++ (c.1.getLast?.map fun s => (⟨s.f0, s.f1 + 1⟩ : Sp)).toList, p + 1)
def foldF (l : List Int) : List Sp × Int := l.foldl stepF ([], 0)
def spansOf (l : List Int) : List Sp := (foldF l).1
theorem foldF_snoc (l : List Int) (p : Int) : foldF (l ++ [p]) = stepF (foldF l) p := by simp [foldF]
def canonOne (first : Bool) (s : Sp) : Prop := s.f1 ≠ 0 ∧ (first = false → s.f0 ≠ 0)
instance (f : Bool) (s : Sp) : Decidable (canonOne f s) := by unfold canonOne; exact inferInstance
def canonB : Bool → List Sp → Bool
  | _, [] => true
  | f, s :: r => decide (canonOne f s) && canonB false r
theorem canonB_snoc (s : Sp) : ∀ (l : List Sp) (f : Bool), canonB f (l ++ [s]) = (canonB f l && decide (canonOne (f && l.isEmpty) s))
  | [], f => by simp [canonB]
  | x :: l, f => by simp only [List.cons_append, canonB, canonB_snoc s l, List.isEmpty_cons, Bool.false_and, Bool.and_false, Bool.and_assoc]
structure SpInv (l : List Int) (c : List Sp) (e : Int) : Prop where
  pl : plN 0 c = l
  en : enN 0 c = e
  cnt : cntN c = l.length
  can : canonB true c = true
  pos : ∀ s ∈ c, 1 ≤ s.f1 ∧ s.f1 ≤ l.length ∧ -1048576 ≤ s.f0 ∧ s.f0 ≤ 2097152
  right : (l.length : Int) ≤ 4096 → spRight true 0 0 c = true
  nil : c = [] ↔ l = []
  last : ∀ q, l.getLast? = some q → e = q + 1 ∧ -1048576 ≤ q ∧ q ≤ 1048576
  first : l = [] → e = 0
  len : c.length ≤ l.length
theorem spInv_step {l : List Int} {p : Int} (h : SpInv l (foldF l).1 (foldF l).2) (hp : lowB (-1048576) l ≤ p ∧ p ≤ 1048576) : SpInv (l ++ [p]) (foldF (l ++ [p])).1 (foldF (l ++ [p])).2 := by
  rw [foldF_snoc]
  generalize foldF l = g at h
  obtain ⟨c, e⟩ := g
  obtain ⟨hpl, hen, hcnt, hcan, hpos, hright, hnil, hlast, hfirst, hlen⟩ := h
  simp only at hpl hen hcnt hcan hpos hright hnil hlast hfirst hlen
  have hpb : -1048576 ≤ p := by
    cases hl : l.getLast? with
    | none => rw [lowB_none hl] at hp; exact hp.1
    | some q => rw [lowB_some hl] at hp; have := hlast q hl; have := hp.1; omega
  have heb : -1048576 ≤ e ∧ e ≤ 1048577 := by
    cases hl : l.getLast? with
    | none => have := hfirst (List.getLast?_eq_none_iff.1 hl); omega
    | some q => have := hlast q hl; omega
  have hlast' : ∀ q, (l ++ [p]).getLast? = some q → p + 1 = q + 1 ∧ -1048576 ≤ q ∧ q ≤ 1048576 := by
    intro q hq; simp at hq; subst hq; exact ⟨rfl, hpb, hp.2⟩
  unfold stepF
  simp only
  by_cases hc : c = [] ∨ p > e
  · rw [if_pos hc]
    have hemp : c ≠ [] → 0 < p - e := by intro hne; rcases hc with hc | hc; exact absurd hc hne; omega
    have hlo : -1048576 ≤ p - e := by
      by_cases hne : c = []
      · have := hfirst (hnil.1 hne); omega
      · have := hemp hne; omega
    refine ⟨?_, ?_, ?_, ?_, ?_, ?_, ?_, hlast', by simp, by simp; exact hlen⟩
    · rw [plN_snoc, hpl, hen]; simp [run]; omega
    · rw [enN_snoc, hen]; simp; omega
    · rw [cntN_snoc, hcnt]; simp
    · rw [canonB_snoc, hcan]
      simp only [Bool.true_and, decide_eq_true_eq]
      refine ⟨by simp, fun hf => ?_⟩
      have : c ≠ [] := by rintro rfl; simp at hf
      have := hemp this
      simp only; omega
    · intro s hs
      rcases List.mem_append.1 hs with hs | hs
      · have := hpos s hs; simp; omega
      · simp at hs; subst hs; simp; omega
    · intro hl
      have hl' : (l.length : Int) ≤ 4096 := by simp at hl; omega
      rw [spRight_snoc, hright hl', hen, hcnt]
      simp only [Bool.true_and, decide_eq_true_eq]
      refine ⟨by simp, by simp, by simp; omega, ?_, by simp; omega, by simp; omega, by simp; omega, by simp at hl ⊢; omega⟩
      by_cases hne : c = []
      · subst hne; simp; have := hfirst (hnil.1 rfl); omega
      · have := hemp hne
        rw [if_neg (by simp [hne])]
        simp only; omega
    · simp
  · rw [if_neg hc]
    have hne : c ≠ [] := fun h => hc (Or.inl h)
    obtain ⟨c', s, rfl⟩ : ∃ c' s, c = c' ++ [s] := ⟨c.dropLast, c.getLast hne, (List.dropLast_concat_getLast hne).symm⟩
    have hle : l ≠ [] := fun h => hne (hnil.2 h)
    obtain ⟨q, hq⟩ : ∃ q, l.getLast? = some q := by cases hl : l.getLast? with
      | none => exact absurd (List.getLast?_eq_none_iff.1 hl) hle
      | some q => exact ⟨q, rfl⟩
    have hpe : p = e := by
      rw [lowB_some hq] at hp
      have := hlast q hq
      have := hp.1
      have : ¬ p > e := fun h => hc (Or.inr h)
      omega
    subst hpe
    have hs1 := hpos s (by simp)
    rw [plN_snoc] at hpl
    rw [enN_snoc] at hen
    rw [cntN_snoc] at hcnt
    rw [canonB_snoc] at hcan
    simp only [Bool.and_eq_true, decide_eq_true_eq] at hcan
    simp only [List.dropLast_concat, List.getLast?_concat, Option.map_some, Option.toList_some]
    have het : (s.f1 + 1).toNat = s.f1.toNat + 1 := by omega
    refine ⟨?_, ?_, ?_, ?_, ?_, ?_, ?_, hlast', by simp, by simp at hlen ⊢; omega⟩
    · rw [plN_snoc]; simp only []; rw [het, run_snoc, ← List.append_assoc, hpl]
      congr 2; omega
    · rw [enN_snoc]; simp only; omega
    · rw [cntN_snoc]; simp only [List.length_append, List.length_cons, List.length_nil]; omega
    · rw [canonB_snoc, hcan.1]
      simp only [Bool.true_and, decide_eq_true_eq]
      exact ⟨by simp only; omega, hcan.2.2⟩
    · intro x hx
      rcases List.mem_append.1 hx with hx | hx
      · have := hpos x (by simp [hx]); simp; omega
      · simp at hx; subst hx; simp; omega
    · intro hl
      have hl' : (l.length : Int) ≤ 4096 := by simp at hl; omega
      have hr := hright hl'
      rw [spRight_snoc] at hr ⊢
      simp only [Bool.and_eq_true, decide_eq_true_eq] at hr ⊢
      obtain ⟨hr0, h1, h2, h3, h4, h5, h6, h7, h8⟩ := hr
      simp only [List.length_append, List.length_cons, List.length_nil] at hl
      exact ⟨hr0, by simp only; omega, by simp only; omega, h3, h4, h5, h6, by simp only; omega, by simp only; omega⟩
    · simp
theorem spInv_take (l : List Int) (hr : rises (-1048576) l = true) : SpInv l (spansOf l) (foldF l).2 := by
  have : ∀ i, i ≤ l.length → SpInv (l.take i) (foldF (l.take i)).1 (foldF (l.take i)).2 := by
    intro i
    induction i with
    | zero => intro _; simp only [List.take_zero]; exact ⟨rfl, rfl, rfl, rfl, by simp [foldF], fun _ => rfl, by simp [foldF], by simp, fun _ => rfl, by simp [foldF]⟩
    | succ i ih =>
      intro hi
      have hlt : i < l.length := by omega
      rw [take_at hlt]
      refine spInv_step (ih (by omega)) ?_
      by_cases hb : (lowB (-1048576) (l.take i) ≤ l[i] ∧ l[i] ≤ 1048576)
      · exact hb
      · rw [rises_take_false hlt hb] at hr; cases hr
  have := this l.length (Nat.le_refl _)
  rwa [List.take_length] at this
end Go.Proofs.Ytfbjjbbhnmoolaa.P
namespace Go.Proofs.Ytfbjjbbhnmoolaa.P
open Go.RowKit Go.Proofs.YtfbjjbbhnmoolaaW.PrintWords Go.Proofs.YtfbjjbbhnmoolaaW.PrintLast Go.Proofs.YtfbjjbbhnmoolaaW.PrintMore
def fromRes (l : List Int) : List Sp × Int := if rises (-1048576) l = true then (if (l.length : Int) > 4096 then ([], 12) else if ((spansOf l).length : Int) > 1024 then ([], 12) else (spansOf l, 0)) else ([], 11)
theorem rdSp_last (c : List Sp) (s : Sp) (h : c.length < 4611686018427387904) : wrap64 (((c ++ [s]).length : Int) - 1) = (c.length : Int) ∧ rd_T86 (c ++ [s]) (c.length : Int) = s := by
  refine ⟨by simp only [List.length_append, List.length_cons, List.length_nil]; rw [wrap_id (by omega) (by omega)]; omega, ?_⟩
  rw [rdSp_at (by simp)]; simp
theorem from_loop (l : List Int) (hw : ∀ x ∈ l, i64 x) (hm : l.length < 4398046511104) : ∀ (d k i : Nat), l.length - i = d → 2 * d < k → i ≤ l.length → rises (-1048576) (l.take i) = true →
    span_From.l0 k l (foldF (l.take i)).1 (foldF (l.take i)).2 l (l.length : Int) (i : Int) = some (fromRes l) := by
  intro d
  induction d with
  | zero =>
    intro k i hd hk hi hr
    obtain ⟨k, rfl⟩ : ∃ m, k = m + 1 := ⟨k - 1, by omega⟩
    have hil : i = l.length := by omega
    subst hil
    rw [List.take_length] at hr ⊢
    simp only [span_From.l0]
    rw [if_neg (by omega)]
    unfold fromRes
    rw [if_pos hr]
    show _ = some (if (l.length : Int) > 4096 then ([], 12) else if (((foldF l).1).length : Int) > 1024 then ([], 12) else ((foldF l).1, 0))
    split
    · rfl
    · split <;> rfl
  | succ d ih =>
    intro k i hd hk hi hr
    obtain ⟨k, rfl⟩ : ∃ m, k = m + 2 := ⟨k - 2, by omega⟩
    have hlt : i < l.length := by omega
    have hp := hw _ (List.getElem_mem hlt)
    have hinv : SpInv (l.take i) (foldF (l.take i)).1 (foldF (l.take i)).2 := spInv_take _ hr
    have hfail : ¬ (lowB (-1048576) (l.take i) ≤ l[i] ∧ l[i] ≤ 1048576) → some (([] : List Sp), (11 : Int)) = some (fromRes l) := by
      intro hb
      unfold fromRes
      rw [rises_take_false hlt hb]; rfl
    have hgo : (lowB (-1048576) (l.take i) ≤ l[i] ∧ l[i] ≤ 1048576) → span_From.l0 k l (foldF (l.take (i + 1))).1 (foldF (l.take (i + 1))).2 l (l.length : Int) ((i + 1 : Nat) : Int) = some (fromRes l) := by
      intro hb
      refine ih k (i + 1) (by omega) (by omega) (by omega) ?_
      rw [take_at hlt, rises_snoc, hr, decide_eq_true hb]; rfl
    have hsnoc : foldF (l.take (i + 1)) = stepF (foldF (l.take i)) l[i] := by rw [take_at hlt, foldF_snoc]
    rw [hsnoc] at hgo
    clear hsnoc
    have hlen : (l.take i).length = i := by simp; omega
    have hi0 : (l.take i).getLast? = none ↔ i = 0 := by rw [List.getLast?_eq_none_iff]; constructor
                                                        · intro h; rw [h] at hlen; simpa using hlen.symm
                                                        · intro h; subst h; rfl
    simp only [span_From.l0]
    rw [if_pos (by omega), if_pos (by omega), if_pos (by omega), rd_at hlt, in_eq]
    simp only [Option.bind_some]
    generalize l[i] = p at hp hfail hgo
    generalize foldF (l.take i) = g at hinv hgo
    obtain ⟨c, e⟩ := g
    obtain ⟨hpl, hen, hcnt, hcan, hpos, hright, hnil, hlast, hfirst, hcl⟩ := hinv
    simp only at hpl hen hcnt hcan hpos hright hnil hlast hfirst hgo hcl ⊢
    rw [hlen] at hcl
    have hbad : ∀ b, b = true → ¬ (lowB (-1048576) (l.take i) ≤ p ∧ p ≤ 1048576) → span_From.j1 (k + 1) l c e (i : Int) p l (l.length : Int) (i : Int) b = some (fromRes l) := by
      intro b hb h; subst hb
      simp only [span_From.j1]; simp only [if_true]; exact hfail h
    by_cases c1 : -1048576 ≤ p ∧ p ≤ 1048576
    rotate_left
    · rw [decide_eq_false c1, if_neg (by decide)]
      refine hbad true rfl (fun h => c1 ?_)
      cases hl : (l.take i).getLast? with
      | none => rw [lowB_none hl] at h; exact h
      | some q => have := hlast q hl; rw [lowB_some hl] at h; omega
    rw [decide_eq_true c1, if_pos rfl]
    -- the bound that counts
    have hbnd : (¬ (i > 0 ∧ p < e)) → (lowB (-1048576) (l.take i) ≤ p ∧ p ≤ 1048576) := by
      intro h
      cases hl : (l.take i).getLast? with
      | none => rw [lowB_none hl]; exact c1
      | some q =>
        have := hlast q hl
        have : i ≠ 0 := fun h0 => by rw [hi0.2 h0] at hl; cases hl
        rw [lowB_some hl]; omega
    have hne : (i > 0 ∧ p < e) → ¬ (lowB (-1048576) (l.take i) ≤ p ∧ p ≤ 1048576) := by
      rintro ⟨h0, h1⟩ h
      cases hl : (l.take i).getLast? with
      | none => exact absurd (hi0.1 hl) (by omega)
      | some q => have := hlast q hl; rw [lowB_some hl] at h; have := h.1; omega
    have hcn : c = [] ↔ i = 0 := hnil.trans (List.getLast?_eq_none_iff.symm.trans hi0)
    have heb : -1048576 ≤ e ∧ e ≤ 1048577 := by
      cases hl : (l.take i).getLast? with
      | none => have := hfirst (List.getLast?_eq_none_iff.1 hl); omega
      | some q => have := hlast q hl; omega
    have hgood : ¬ (i > 0 ∧ p < e) → span_From.j1 (k + 1) l c e (i : Int) p l (l.length : Int) (i : Int) false = some (fromRes l) := by
      intro hn
      have hgo := hgo (hbnd hn)
      unfold stepF at hgo
      simp only at hgo
      have happ : (some (c ++ [(⟨wrap64 (p - e), 0⟩ : Sp)] : List Sp)).bind (fun y => (if 0 ≤ (wrap64 ((y.length : Int) - 1)) then (if (wrap64 ((y.length : Int) - 1)) < (y.length : Int) then (span_From.l0 k l (y.set ((wrap64 ((y.length : Int) - 1)) : Int).toNat (⟨(rd_T86 y (wrap64 ((y.length : Int) - 1))).f0, wrap64 (((rd_T86 y (wrap64 ((y.length : Int) - 1))).f1) + 1)⟩ : Sp)) (wrap64 (p + 1)) l (l.length : Int) (wrap64 ((i : Int) + 1))) else (none)) else (none))) = span_From.l0 k l (c ++ [⟨p - e, 1⟩]) (p + 1) l (l.length : Int) ((i + 1 : Nat) : Int) := by
        simp only [Option.bind_some]
        obtain ⟨e1, e2⟩ := rdSp_last c ⟨wrap64 (p - e), 0⟩ (by omega)
        rw [e1, e2, if_pos (by omega), if_pos (by simp only [List.length_append, List.length_cons, List.length_nil]; omega)]
        simp only []
        rw [wrap_id (x := p - e) (by omega) (by omega), wrap_id (x := 0 + 1) (by omega) (by omega), wrap_id (x := p + 1) (by omega) (by omega), wrap_succ (by omega)]
        congr 1
        simp
      simp only [span_From.j1]
      rw [if_neg (by decide)]
      by_cases h0 : i = 0
      · rw [if_pos (by omega), if_pos (by omega), happ]
        rw [if_pos (Or.inl (hcn.2 h0))] at hgo
        exact hgo
      · rw [if_neg (by omega)]
        by_cases h1 : p > e
        · rw [if_pos h1, if_pos (by omega), happ]
          rw [if_pos (Or.inr h1)] at hgo
          exact hgo
        · rw [if_neg h1]
          rw [if_neg (by rintro (h | h); exact h0 (hcn.1 h); exact h1 h)] at hgo
          have hne : c ≠ [] := fun h => h0 (hcn.1 h)
          obtain ⟨c', s, rfl⟩ : ∃ c' s, c = c' ++ [s] := ⟨c.dropLast, c.getLast hne, (List.dropLast_concat_getLast hne).symm⟩
          have hs1 := hpos s (by simp)
          rw [hlen] at hs1
          simp only [List.length_append, List.length_cons, List.length_nil] at hcl
          obtain ⟨e1, e2⟩ := rdSp_last c' s (by omega)
          rw [e1, e2, if_pos (by omega), if_pos (by simp only [List.length_append, List.length_cons, List.length_nil]; omega)]
          simp only [List.dropLast_concat, List.getLast?_concat, Option.map_some, Option.toList_some] at hgo
          rw [wrap_id (x := s.f1 + 1) (by omega) (by omega), wrap_id (x := p + 1) (by omega) (by omega), wrap_succ (by omega), ← hgo]
          congr 1
          simp
    by_cases c2 : (i : Int) > 0
    · rw [if_pos c2]
      by_cases c3 : p < e
      · exact hbad _ (decide_eq_true c3) (hne ⟨by omega, c3⟩)
      · rw [decide_eq_false c3]; exact hgood (fun h => c3 h.2)
    · rw [if_neg c2]; exact hgood (fun h => c2 (by omega))
theorem from_eq (l : List Int) (hw : ∀ x ∈ l, i64 x) (hm : l.length < 4398046511104) (k : Nat) (hk : 2 * l.length < k) : span_From.f k l = some (fromRes l) := by
  unfold span_From.f
  exact from_loop l hw hm l.length k 0 (by omega) hk (by omega) rfl
def placesRes (l : List Sp) : List Int × Int := if spCheck l = 0 then (plN 0 l, 0) else ([], spCheck l)
theorem spCheck_zero {l : List Sp} (h : spCheck l = 0) : l.length ≤ 1024 ∧ spRight true 0 0 l = true := by
  unfold spCheck at h
  split at h
  · cases h
  · split at h
    · exact ⟨by omega, by assumption⟩
    · cases h
theorem places_len {l : List Sp} (h : spCheck l = 0) : (plN 0 l).length ≤ 4096 := by
  have hr := (spCheck_zero h).2
  have h1 := plN_length l 0 (fun s hs => (spRight_pos l _ _ _ hr s hs).1)
  have h2 := cntN_le l _ _ _ hr (by omega)
  omega
theorem places_eq (l : List Sp) (hw : wfSps l) (k : Nat) (hk : 2048 < k) : span_Places.f k l = some (placesRes l) := by
  unfold span_Places.f placesRes
  rw [check_eq l hw k hk]
  simp only [Option.bind_some]
  by_cases h : spCheck l = 0
  · have h0 := spCheck_zero h
    rw [if_pos h, if_pos h, placesAt_plN l _ _ _ h0.2, if_pos ⟨by omega, by have := places_len h; omega⟩]
  · rw [if_neg h, if_neg h]
theorem rises_of_right {l : List Sp} (h : spCheck l = 0) : rises (-1048576) (plN 0 l) = true := by
  have hr := (spCheck_zero h).2
  have hrun : ∀ (m : Nat) (b e : Int), e ≤ b → (m = 0 ∨ b + m - 1 ≤ 1048576) → ∀ r, rises (b + m) r = true ∨ (m = 0 ∧ rises e r = true) → rises e (run b m ++ r) = true := by
    intro m
    induction m with
    | zero =>
      intro b e h1 h2 r h3
      rcases h3 with h3 | h3
      · simp only [run, List.nil_append]
        have hmono : ∀ (r : List Int) (e e' : Int), e ≤ e' → rises e' r = true → rises e r = true := by
          intro r
          cases r with
          | nil => intros; rfl
          | cons x r => intro e e' he h; simp only [rises, Bool.and_eq_true, decide_eq_true_eq] at h ⊢; exact ⟨⟨by omega, h.1.2⟩, h.2⟩
        exact hmono r e _ (by omega) h3
      · exact h3.2
    | succ m ih =>
      intro b e h1 h2 r h3
      simp only [run, List.cons_append, rises, Bool.and_eq_true, decide_eq_true_eq]
      refine ⟨⟨h1, by omega⟩, ih (b + 1) (b + 1) (Int.le_refl _) (by omega) r (Or.inl ?_)⟩
      rcases h3 with h3 | h3
      · rw [show b + 1 + (m : Int) = b + ((m + 1 : Nat) : Int) by omega]; exact h3
      · omega
  have : ∀ (l : List Sp) (f : Bool) (a n e : Int), spRight f a n l = true → (if f = true then a = 0 ∧ e = -1048576 else e ≤ a) → rises e (plN a l) = true := by
    intro l
    induction l with
    | nil => intros; rfl
    | cons s l ih =>
      intro f a n e h he
      simp only [spRight, Bool.and_eq_true, decide_eq_true_eq] at h
      obtain ⟨h1, h2, h3, h4, h5, h6, h7, h8⟩ := h.1
      have ee : ((s.f1.toNat : Nat) : Int) = s.f1 := by omega
      have hle : e ≤ a + s.f0 := by cases f <;> simp at he h4 <;> omega
      simp only [plN]
      refine hrun s.f1.toNat (a + s.f0) e hle (by omega) _ ?_
      rw [ee]
      exact Or.inl (ih false _ _ _ h.2 (by simp))
  exact this l true 0 0 _ hr (by simp)
theorem rises_i64 {l : List Int} (h : rises (-1048576) l = true) : ∀ x ∈ l, -1048576 ≤ x ∧ x ≤ 1048576 := by
  have : ∀ (l : List Int) (e : Int), -1048576 ≤ e → rises e l = true → ∀ x ∈ l, -1048576 ≤ x ∧ x ≤ 1048576 := by
    intro l
    induction l with
    | nil => intro e _ _ x hx; cases hx
    | cons y l ih =>
      intro e he h x hx
      simp only [rises, Bool.and_eq_true, decide_eq_true_eq] at h
      rcases List.mem_cons.1 hx with rfl | hx
      · omega
      · exact ih (y + 1) (by omega) h.2 x hx
  exact this l _ (Int.le_refl _) h
end Go.Proofs.Ytfbjjbbhnmoolaa.P
namespace Go.Proofs.Ytfbjjbbhnmoolaa.P
open Go.RowKit Go.Proofs.YtfbjjbbhnmoolaaW.PrintWords Go.Proofs.YtfbjjbbhnmoolaaW.PrintLast Go.Proofs.YtfbjjbbhnmoolaaW.PrintMore
attribute [local go_sem] max2_int min2_int max_two min_two max_three min_three max_four min_four
theorem eqA86 (d : Nat) (w : World) (x0 y0 : Int) (x1 y1 : Int) :
  (Op.equalIn (d + 2) 86 (.agg #[.int .i64 x0, .int .i64 x1]) (.agg #[.int .i64 y0, .int .i64 y1])).run Try.prog w = .ok (x0 == y0 && (x1 == y1)) w := by
 refine eqA_of Try.underlying86 (by kernel_rfl) ?_
 refine eqf_cons (by rfl) (by go_simp; rfl) (by go_simp; rfl) (by go_simp) ?_
 exact eqf_last (by rfl) (by go_simp; rfl) (by go_simp; rfl) (by go_simp)
theorem eqA137 (d : Nat) (w : World) (x0 y0 : Int) (x1 y1 : Int) :
  (Op.equalIn (d + 2) 137 (.agg #[.int .i64 x0, .int .u64 x1]) (.agg #[.int .i64 y0, .int .u64 y1])).run Try.prog w = .ok (x0 == y0 && (x1 == y1)) w := by
 refine eqA_of Try.underlying137 (by kernel_rfl) ?_
 refine eqf_cons (by rfl) (by go_simp; rfl) (by go_simp; rfl) (by go_simp) ?_
 exact eqf_last (by rfl) (by go_simp; rfl) (by go_simp; rfl) (by go_simp)
end Go.Proofs.Ytfbjjbbhnmoolaa.P
namespace Go.Proofs.Ytfbjjbbhnmoolaa.P
open Go.RowKit Go.Proofs.YtfbjjbbhnmoolaaW.PrintWords Go.Proofs.YtfbjjbbhnmoolaaW.PrintLast Go.Proofs.YtfbjjbbhnmoolaaW.PrintMore
abbrev Pr := S109
instance : DecidableEq Pr := fun a b => if h : a.f0 = b.f0 ∧ a.f1 = b.f1 then isTrue (by cases a; cases b; simp only at h; rw [h.1, h.2]) else isFalse (by rintro rfl; exact h ⟨rfl, rfl⟩)
def wfPrs (l : List Pr) : Prop := ∀ s ∈ l, i64 s.f0 ∧ i64 s.f1
theorem fromRes_ok {l : List Int} (h : (fromRes l).2 = 0) : rises (-1048576) l = true ∧ l.length ≤ 4096 ∧ (spansOf l).length ≤ 1024 ∧ (fromRes l).1 = spansOf l := by
  unfold fromRes at h ⊢
  split at h
  · rename_i hr
    split at h
    · cases h
    · split at h
      · cases h
      · refine ⟨hr, by omega, by omega, ?_⟩
        rw [if_pos hr, if_neg (by omega), if_neg (by omega)]
  · cases h
theorem spansOf_wf {l : List Int} (hr : rises (-1048576) l = true) (h1 : l.length ≤ 4096) : wfSps (spansOf l) := by
  have h := spInv_take l hr
  intro s hs
  have := h.pos s hs
  exact ⟨⟨by omega, by omega⟩, ⟨by omega, by omega⟩⟩
end Go.Proofs.Ytfbjjbbhnmoolaa.P
namespace Go.Proofs.Ytfbjjbbhnmoolaa.P
open Go.RowKit Go.Shelf Go.Proofs.YtfbjjbbhnmoolaaW.PrintWords Go.Proofs.YtfbjjbbhnmoolaaW.PrintLast Go.Proofs.YtfbjjbbhnmoolaaW.PrintMore
theorem count_loop (l : List Sp) (hm : l.length ≤ 1024) (hp : ∀ s ∈ l, 0 ≤ s.f1 ∧ s.f1 ≤ 4096) : ∀ (d k i : Nat), l.length - i = d → d < k → i ≤ l.length → 0 ≤ cntN (l.take i) → cntN (l.take i) ≤ 4096 * i →
    span_Count.l0 k (cntN (l.take i)) l (l.length : Int) (i : Int) = some (cntN l) := by
  intro d
  induction d with
  | zero =>
    intro k i hd hk hi h0 h1
    obtain ⟨k, rfl⟩ : ∃ m, k = m + 1 := ⟨k - 1, by omega⟩
    rw [span_Count.l0, if_neg (by omega), List.take_of_length_le (by omega)]
  | succ d ih =>
    intro k i hd hk hi h0 h1
    obtain ⟨k, rfl⟩ : ∃ m, k = m + 1 := ⟨k - 1, by omega⟩
    have hlt : i < l.length := by omega
    have hs := hp _ (List.getElem_mem hlt)
    have e : cntN (l.take (i + 1)) = cntN (l.take i) + l[i].f1 := by rw [take_at hlt, cntN_snoc]
    rw [span_Count.l0, if_pos (by omega), if_pos (by omega), if_pos (by omega), rdSp_at hlt, wrap_succ (by omega), wrap_id (by omega) (by omega), ← e]
    exact ih k (i + 1) (by omega) (by omega) (by omega) (by omega) (by omega)
theorem count_eq (l : List Sp) (hw : wfSps l) (k : Nat) (hk : 2048 < k) : span_Count.f k l = some (if spCheck l = 0 then cntN l else 0) := by
  unfold span_Count.f
  rw [check_eq l hw k hk, Option.bind_some]
  by_cases h : spCheck l = 0
  · have h0 := spCheck_zero h
    rw [if_pos h, if_pos h]
    exact count_loop l h0.1 (fun s hs => spRight_pos l _ _ _ h0.2 s hs) l.length k 0 (by omega) (by omega) (by omega) (by simp [cntN]) (by simp [cntN])
  · rw [if_neg h, if_neg h]
instance (l : List Sp) : Decidable (wfSps l) := by unfold wfSps wfSp; exact inferInstance
def i64s (l : List Int) : Prop := ∀ x ∈ l, i64 x
instance (l : List Int) : Decidable (i64s l) := by unfold i64s; exact inferInstance
end Go.Proofs.Ytfbjjbbhnmoolaa.P
namespace Go.Proofs.Ytfbjjbbhnmoolaa.P
open Go.RowKit Go.Proofs.YtfbjjbbhnmoolaaW.PrintWords Go.Proofs.YtfbjjbbhnmoolaaW.PrintLast Go.Proofs.YtfbjjbbhnmoolaaW.PrintMore
attribute [local go_sem] max2_int min2_int max_two min_two max_three min_three max_four min_four
def hist_Threshold.f (a0 : Int) : Option (Bool) := some (decide (a0 < 9218868437227405312))
set_option maxHeartbeats 8000000 in
set_option maxRecDepth 100000 in
theorem hist_Threshold.calls (a0 : Int) (r : Bool) (w : World) (h : hist_Threshold.f a0 = some r) :
  Calls Try.prog 66 #[.int .u64 a0] w fun e w' => e = .returned (.bool r) ∧ Drawn0 w w' := by
 have H : (some (decide (a0 < 9218868437227405312))) = some r := h
 clear h
 obtain rfl := Option.some.inj H
 go_enter Try.func66, Try.ntmps66
 go_wp2
 go_ret
 exact ⟨by first | rfl | (simp; done) | (simp [*]; done), by repeat (first | exact Drawn0.refl _ | apply Drawn0.step)⟩
end Go.Proofs.Ytfbjjbbhnmoolaa.P
namespace Go.Proofs.Ytfbjjbbhnmoolaa.P
open Go.RowKit Go.Shelf Go.Proofs.YtfbjjbbhnmoolaaW.PrintWords Go.Proofs.YtfbjjbbhnmoolaaW.PrintLast Go.Proofs.YtfbjjbbhnmoolaaW.PrintMore
def wfHi (s z zc ct sm : Int) (l5 l6 : List Sp) (l7 l8 : List Int) : Prop := i64 s ∧ u64 z ∧ u64 zc ∧ u64 ct ∧ u64 sm ∧ wfSps l5 ∧ wfSps l6 ∧ i64s l7 ∧ i64s l8 ∧ l7.length < 4398046511104 ∧ l8.length < 4398046511104
instance (s z zc ct sm : Int) (l5 l6 : List Sp) (l7 l8 : List Int) : Decidable (wfHi s z zc ct sm l5 l6 l7 l8) := by unfold wfHi; exact inferInstance
end Go.Proofs.Ytfbjjbbhnmoolaa.P
namespace Go.Proofs.Ytfbjjbbhnmoolaa.P
section
variable {α : Type} (key val : α → Int)
def Ups (l : List α) : Prop := l.Pairwise (fun a b => key a < key b)
variable {key val}
theorem Ups.nil : Ups key ([] : List α) := List.Pairwise.nil
theorem Ups.tail {x : α} {l : List α} (h : Ups key (x :: l)) : Ups key l := (List.pairwise_cons.1 h).2
theorem Ups.head {x : α} {l : List α} (h : Ups key (x :: l)) : ∀ y ∈ l, key x < key y := (List.pairwise_cons.1 h).1
theorem Ups.filter {l : List α} (p : α → Bool) (h : Ups key l) : Ups key (l.filter p) := List.Pairwise.filter p h
theorem Ups.inj {l : List α} (hu : Ups key l) {x y : α} (hx : x ∈ l) (hy : y ∈ l) (h : key x = key y) : x = y := by
  induction l with
  | nil => cases hx
  | cons z l ih =>
    rcases List.mem_cons.1 hx with e1 | hx1
    · rcases List.mem_cons.1 hy with e2 | hy1
      · rw [e1, e2]
      · have := hu.head y hy1; rw [e1] at h; omega
    · rcases List.mem_cons.1 hy with e2 | hy1
      · have := hu.head x hx1; rw [e2] at h; omega
      · exact ih hu.tail hx1 hy1
end
section
variable {β α ρ : Type}
end
section
variable {α : Type} {key val : α → Int}
end
section
variable {α : Type}
variable {key : α → Int} {join : α → α → α}
end
end Go.Proofs.Ytfbjjbbhnmoolaa.P
namespace Go.Proofs.Ytfbjjbbhnmoolaa.P
open Go.RowKit Go.Shelf Go.Proofs.YtfbjjbbhnmoolaaW.PrintWords Go.Proofs.YtfbjjbbhnmoolaaW.PrintLast Go.Proofs.YtfbjjbbhnmoolaaW.PrintMore
def SI {α : Type} (d : Kd α) (w : World) (v : Value) (l : List α) : Prop := ∃ A c, v = .slice A l.length c ∧ l.length ≤ c ∧ d.C w A l.length l
theorem SI.below {α : Type} {d : Kd α} {w w' : World} {v : Value} {l : List α} (h : SI d w v l) (hb : Below w.heap.size w w') : SI d w' v l := by
  obtain ⟨A, c, e, h1, h2⟩ := h
  exact ⟨A, c, e, h1, Kd.C_below h2 hb⟩
theorem SI.of {α : Type} {d : Kd α} {w : World} {A : Option Addr} {c : Nat} {l : List α} (h2 : d.C w A l.length l) (h1 : l.length ≤ c) : SI d w (.slice A l.length c) l := ⟨A, c, rfl, h1, h2⟩
theorem SI.of_R {α : Type} {d : Kd α} {e : Nat} {w : World} {base : Nat} {ok : Nat → Prop} {v : Value} {l : List α} (h : d.R e w base ok v l) : SI d w v l := Kd.R_reads h
theorem SI.nil {α : Type} (d : Kd α) (w : World) : SI d w (.slice none 0 0) [] := ⟨none, 0, rfl, Nat.le_refl _, Kd.C_nil d w⟩
abbrev Hi := S26
abbrev kSp := k86
def HI (w : World) (v : Value) (h : Hi) : Prop :=
  ∃ v5 v6 v7 v8, v = .agg #[.int .i64 h.f0, .int .u64 h.f1, .int .u64 h.f2, .int .u64 h.f3, .int .u64 h.f4, v5, v6, v7, v8] ∧ SI kSp w v5 h.f5 ∧ SI kSp w v6 h.f6 ∧ SI (Kd.int .i64) w v7 h.f7 ∧ SI (Kd.int .i64) w v8 h.f8
theorem HI.below {w w' : World} {v : Value} {h : Hi} (x : HI w v h) (hb : Below w.heap.size w w') : HI w' v h := by
  obtain ⟨v5, v6, v7, v8, e, h5, h6, h7, h8⟩ := x
  exact ⟨v5, v6, v7, v8, e, h5.below hb, h6.below hb, h7.below hb, h8.below hb⟩
theorem HI.open_ {w : World} {v : Value} {h : Hi} (x : HI w v h) : ∃ A5 c5 A6 c6 A7 c7 A8 c8, v = .agg #[.int .i64 h.f0, .int .u64 h.f1, .int .u64 h.f2, .int .u64 h.f3, .int .u64 h.f4, .slice A5 h.f5.length c5, .slice A6 h.f6.length c6, .slice A7 h.f7.length c7, .slice A8 h.f8.length c8] ∧
    SI kSp w (.slice A5 h.f5.length c5) h.f5 ∧ SI kSp w (.slice A6 h.f6.length c6) h.f6 ∧ SI (Kd.int .i64) w (.slice A7 h.f7.length c7) h.f7 ∧ SI (Kd.int .i64) w (.slice A8 h.f8.length c8) h.f8 := by
  obtain ⟨v5, v6, v7, v8, rfl, h5, h6, h7, h8⟩ := x
  obtain ⟨A5, c5, rfl, h51, h52⟩ := h5
  obtain ⟨A6, c6, rfl, h61, h62⟩ := h6
  obtain ⟨A7, c7, rfl, h71, h72⟩ := h7
  obtain ⟨A8, c8, rfl, h81, h82⟩ := h8
  exact ⟨A5, c5, A6, c6, A7, c7, A8, c8, rfl, .of h52 h51, .of h62 h61, .of h72 h71, .of h82 h81⟩
theorem HI.mk {w : World} {h : Hi} {v5 v6 v7 v8 : Value} (h5 : SI kSp w v5 h.f5) (h6 : SI kSp w v6 h.f6) (h7 : SI (Kd.int .i64) w v7 h.f7) (h8 : SI (Kd.int .i64) w v8 h.f8) :
    HI w (.agg #[.int .i64 h.f0, .int .u64 h.f1, .int .u64 h.f2, .int .u64 h.f3, .int .u64 h.f4, v5, v6, v7, v8]) h := ⟨v5, v6, v7, v8, rfl, h5, h6, h7, h8⟩
end Go.Proofs.Ytfbjjbbhnmoolaa.P
namespace Go.Proofs.Ytfbjjbbhnmoolaa.P
open Go.RowKit Go.Shelf Go.Proofs.YtfbjjbbhnmoolaaW.PrintWords Go.Proofs.YtfbjjbbhnmoolaaW.PrintLast Go.Proofs.YtfbjjbbhnmoolaaW.PrintMore
def KA (base : Nat) (w w' : World) : Prop := w.heap.size ≤ w'.heap.size ∧ ∀ k, base ≤ k → k < w.heap.size → w'.heap[k]? = w.heap[k]?
theorem KA.refl (base : Nat) (w : World) : KA base w w := ⟨Nat.le_refl _, fun _ _ _ => rfl⟩
theorem KA.trans {base : Nat} {a b c : World} (h : KA base a b) (k : KA base b c) : KA base a c := ⟨Nat.le_trans h.1 k.1, fun i h0 h1 => (k.2 i h0 (Nat.lt_of_lt_of_le h1 h.1)).trans (h.2 i h0 h1)⟩
theorem KA.below {base : Nat} {w w' : World} (h : Below w.heap.size w w') : KA base w w' := ⟨h.size, fun k _ h1 => h.block k h1⟩
theorem KA.set {base b i : Nat} (w : World) (hb : b < base) (u : Value) : KA base w (w.setCell ⟨b, i, none⟩ u) := ⟨by simp [World.setCell], fun k h0 _ => Below.heap_setCell w ⟨b, i, none⟩ u k (by show k ≠ b; omega)⟩
def FI {α : Type} (d : Kd α) (base : Nat) (w : World) (v : Value) (l : List α) : Prop := ∀ w', KA base w w' → SI d w' v l
theorem FI.now {α : Type} {d : Kd α} {base : Nat} {w : World} {v : Value} {l : List α} (h : FI d base w v l) : SI d w v l := h w (KA.refl _ _)
theorem FI.at_ {α : Type} {d : Kd α} {base : Nat} {w w' : World} {v : Value} {l : List α} (h : FI d base w v l) (k : KA base w w') : SI d w' v l := h w' k
theorem FI.step {α : Type} {d : Kd α} {base : Nat} {w w' : World} {v : Value} {l : List α} (h : FI d base w v l) (k : KA base w w') : FI d base w' v l := fun w2 h2 => h w2 (k.trans h2)
theorem FI.of_R {α : Type} {d : Kd α} {e : Nat} {w : World} {base b : Nat} {ok : Nat → Prop} {v : Value} {l : List α} (h : d.R e w b ok v l) (hb : base ≤ b) : FI d base w v l := fun w' hk =>
  .of_R (Kd.R_step (Kd.R_bound h) (fun k ho hlt => hk.2 k (Nat.le_trans hb ho.2.1) hlt))
theorem FI.slice {α : Type} {d : Kd α} {base : Nat} {w : World} {v : Value} {l : List α} (h : FI d base w v l) : ∃ A c, v = .slice A l.length c := by obtain ⟨A, c, e, _⟩ := h.now; exact ⟨A, c, e⟩
set_option maxHeartbeats 1000000 in
theorem nine {W : World} {g : Nat} {t : TypeId} {a0 a1 a2 a3 a4 a5 a6 a7 a8 : Value} (h : W.heap[g]? = some (.cells #[a0, a1, a2, a3, a4, a5, a6, a7, a8] t (0, 0))) (v0 v1 v2 v3 v4 v5 v6 v7 v8 : Value) :
    (((((((((W.setCell ⟨g, 0, none⟩ v0).setCell ⟨g, 1, none⟩ v1).setCell ⟨g, 2, none⟩ v2).setCell ⟨g, 3, none⟩ v3).setCell ⟨g, 4, none⟩ v4).setCell ⟨g, 5, none⟩ v5).setCell ⟨g, 6, none⟩ v6).setCell ⟨g, 7, none⟩ v7).setCell ⟨g, 8, none⟩ v8).heap[g]? = some (.cells #[v0, v1, v2, v3, v4, v5, v6, v7, v8] t (0, 0)) := by
  refine blk_put (cs := #[v0, v1, v2, v3, v4, v5, v6, v7, a8]) ?_ 8 _ rfl
  refine blk_put (cs := #[v0, v1, v2, v3, v4, v5, v6, a7, a8]) ?_ 7 _ rfl
  refine blk_put (cs := #[v0, v1, v2, v3, v4, v5, a6, a7, a8]) ?_ 6 _ rfl
  refine blk_put (cs := #[v0, v1, v2, v3, v4, a5, a6, a7, a8]) ?_ 5 _ rfl
  refine blk_put (cs := #[v0, v1, v2, v3, a4, a5, a6, a7, a8]) ?_ 4 _ rfl
  refine blk_put (cs := #[v0, v1, v2, a3, a4, a5, a6, a7, a8]) ?_ 3 _ rfl
  refine blk_put (cs := #[v0, v1, a2, a3, a4, a5, a6, a7, a8]) ?_ 2 _ rfl
  refine blk_put (cs := #[v0, a1, a2, a3, a4, a5, a6, a7, a8]) ?_ 1 _ rfl
  refine blk_put (cs := #[a0, a1, a2, a3, a4, a5, a6, a7, a8]) ?_ 0 _ rfl
  exact h
theorem FI.lower {α : Type} {d : Kd α} {base b : Nat} {w : World} {v : Value} {l : List α} (h : FI d b w v l) (hb : base ≤ b) : FI d base w v l := fun w' k => h w' ⟨k.1, fun i h0 h1 => k.2 i (Nat.le_trans hb h0) h1⟩
theorem belowS {B : Nat} {w W : World} {g i j : Nat} {u u' : Value} (_ : w.heap.size ≤ W.heap.size) (h : Below B w W) (hg : B ≤ g := by exact Nat.le_refl _) : Below B w ((W.setCell ⟨g, i, none⟩ u).setCell ⟨g, j, none⟩ u') := (h.setCell (p := ⟨g, i, none⟩) hg u).setCell (p := ⟨g, j, none⟩) hg u'
theorem nine_below {B : Nat} {w W : World} {g : Nat} (h : Below B w W) (hg : B ≤ g) (v0 v1 v2 v3 v4 v5 v6 v7 v8 : Value) :
    Below B w (((((((((W.setCell ⟨g, 0, none⟩ v0).setCell ⟨g, 1, none⟩ v1).setCell ⟨g, 2, none⟩ v2).setCell ⟨g, 3, none⟩ v3).setCell ⟨g, 4, none⟩ v4).setCell ⟨g, 5, none⟩ v5).setCell ⟨g, 6, none⟩ v6).setCell ⟨g, 7, none⟩ v7).setCell ⟨g, 8, none⟩ v8) :=
  (((((((((h.setCell (p := ⟨g, 0, none⟩) hg v0).setCell (p := ⟨g, 1, none⟩) hg v1).setCell (p := ⟨g, 2, none⟩) hg v2).setCell (p := ⟨g, 3, none⟩) hg v3).setCell (p := ⟨g, 4, none⟩) hg v4).setCell (p := ⟨g, 5, none⟩) hg v5).setCell (p := ⟨g, 6, none⟩) hg v6).setCell (p := ⟨g, 7, none⟩) hg v7).setCell (p := ⟨g, 8, none⟩) hg v8)
theorem nine_ka {base : Nat} {w W : World} {g : Nat} (h : KA base w W) (hg : g < base) (v0 v1 v2 v3 v4 v5 v6 v7 v8 : Value) :
    KA base w (((((((((W.setCell ⟨g, 0, none⟩ v0).setCell ⟨g, 1, none⟩ v1).setCell ⟨g, 2, none⟩ v2).setCell ⟨g, 3, none⟩ v3).setCell ⟨g, 4, none⟩ v4).setCell ⟨g, 5, none⟩ v5).setCell ⟨g, 6, none⟩ v6).setCell ⟨g, 7, none⟩ v7).setCell ⟨g, 8, none⟩ v8) :=
  h.trans (((((((((KA.set _ hg _).trans (KA.set _ hg _)).trans (KA.set _ hg _)).trans (KA.set _ hg _)).trans (KA.set _ hg _)).trans (KA.set _ hg _)).trans (KA.set _ hg _)).trans (KA.set _ hg _)).trans (KA.set _ hg _))
def wfRow (l : List Pr) : Prop := wfPrs l ∧ l.length < 4398046511104
def emptyH : Hi := ⟨0, 0, 0, 0, 0, [], [], [], []⟩
def HF (base : Nat) (w : World) (v : Value) (h : Hi) : Prop :=
  ∃ v5 v6 v7 v8, v = .agg #[.int .i64 h.f0, .int .u64 h.f1, .int .u64 h.f2, .int .u64 h.f3, .int .u64 h.f4, v5, v6, v7, v8] ∧ FI kSp base w v5 h.f5 ∧ FI kSp base w v6 h.f6 ∧ FI (Kd.int .i64) base w v7 h.f7 ∧ FI (Kd.int .i64) base w v8 h.f8
theorem HF.now {base : Nat} {w : World} {v : Value} {h : Hi} (x : HF base w v h) : HI w v h := by
  obtain ⟨v5, v6, v7, v8, e, h5, h6, h7, h8⟩ := x
  exact ⟨v5, v6, v7, v8, e, h5.now, h6.now, h7.now, h8.now⟩
theorem HF.step {base : Nat} {w w' : World} {v : Value} {h : Hi} (x : HF base w v h) (k : KA base w w') : HF base w' v h := by
  obtain ⟨v5, v6, v7, v8, e, h5, h6, h7, h8⟩ := x
  exact ⟨v5, v6, v7, v8, e, h5.step k, h6.step k, h7.step k, h8.step k⟩
theorem HF.lower {base b : Nat} {w : World} {v : Value} {h : Hi} (x : HF b w v h) (hb : base ≤ b) : HF base w v h := by
  obtain ⟨v5, v6, v7, v8, e, h5, h6, h7, h8⟩ := x
  exact ⟨v5, v6, v7, v8, e, h5.lower hb, h6.lower hb, h7.lower hb, h8.lower hb⟩
theorem HF.mk {base : Nat} {w : World} {h : Hi} {v5 v6 v7 v8 : Value} (h5 : FI kSp base w v5 h.f5) (h6 : FI kSp base w v6 h.f6) (h7 : FI (Kd.int .i64) base w v7 h.f7) (h8 : FI (Kd.int .i64) base w v8 h.f8) :
    HF base w (.agg #[.int .i64 h.f0, .int .u64 h.f1, .int .u64 h.f2, .int .u64 h.f3, .int .u64 h.f4, v5, v6, v7, v8]) h := ⟨v5, v6, v7, v8, rfl, h5, h6, h7, h8⟩
theorem HF.empty (base : Nat) (w : World) : HF base w (.agg #[.int .i64 0, .int .u64 0, .int .u64 0, .int .u64 0, .int .u64 0, .slice none 0 0, .slice none 0 0, .slice none 0 0, .slice none 0 0]) emptyH :=
  HF.mk (h := emptyH) (fun w _ => SI.nil _ w) (fun w _ => SI.nil _ w) (fun w _ => SI.nil _ w) (fun w _ => SI.nil _ w)
theorem HF.open_ {base : Nat} {w : World} {v : Value} {h : Hi} (x : HF base w v h) : ∃ A5 c5 A6 c6 A7 c7 A8 c8, v = .agg #[.int .i64 h.f0, .int .u64 h.f1, .int .u64 h.f2, .int .u64 h.f3, .int .u64 h.f4, .slice A5 h.f5.length c5, .slice A6 h.f6.length c6, .slice A7 h.f7.length c7, .slice A8 h.f8.length c8] := by
  obtain ⟨A5, c5, A6, c6, A7, c7, A8, c8, e, -⟩ := x.now.open_
  exact ⟨A5, c5, A6, c6, A7, c7, A8, c8, e⟩
end Go.Proofs.Ytfbjjbbhnmoolaa.P
namespace Go.Proofs.Ytfbjjbbhnmoolaa.P
open Go.RowKit Go.Shelf Go.Proofs.YtfbjjbbhnmoolaaW.PrintWords Go.Proofs.YtfbjjbbhnmoolaaW.PrintLast Go.Proofs.YtfbjjbbhnmoolaaW.PrintMore
attribute [local go_sem] Oper.semAt_some
def cnts (l : List Pr) : Prop := ∀ p ∈ l, i64 p.f0 ∧ 0 ≤ p.f1 ∧ p.f1 ≤ 9223372036854775807
instance (l : List Pr) : Decidable (cnts l) := by unfold cnts; exact inferInstance
theorem box_new {W : World} {b : Nat} (h : W.heap.size = b) (t : TypeId) (v : Value) : Boxed (W.alloc (.cells #[v] t)) b t v := h ▸ Boxed.new W t v
theorem boxed_below {W W' : World} {B : Nat} {t : TypeId} {v : Value} (h : Boxed W B t v) (hb : Below W.heap.size W W') : Boxed W' B t v := (hb.block _ h.lt).trans h
end Go.Proofs.Ytfbjjbbhnmoolaa.P
namespace Go.Proofs.Ytfbjjbbhnmoolaa.P
open Go.RowKit Go.Shelf Go.Proofs.YtfbjjbbhnmoolaaW.PrintWords Go.Proofs.YtfbjjbbhnmoolaaW.PrintLast Go.Proofs.YtfbjjbbhnmoolaaW.PrintMore
structure RowOK (l : List Pr) : Prop where
  wf : wfRow l
  len : l.length ≤ 4096
  cnt : cnts l
  ups : Ups (fun p : Pr => p.f0) l
theorem rises_ups : ∀ (l : List Int) (e : Int), rises e l = true → l.Pairwise (· < ·) ∧ ∀ x ∈ l, e ≤ x
  | [], _, _ => ⟨List.Pairwise.nil, fun x hx => by simp at hx⟩
  | p :: l, e, h => by
    simp only [rises, Bool.and_eq_true, decide_eq_true_eq] at h
    obtain ⟨h1, h2⟩ := rises_ups l (p + 1) h.2
    refine ⟨List.pairwise_cons.2 ⟨fun x hx => by have := h2 x hx; omega, h1⟩, fun x hx => ?_⟩
    rcases List.mem_cons.1 hx with rfl | hx
    · exact h.1.1
    · have := h2 x hx; omega
theorem RowOK.nil : RowOK [] := ⟨⟨fun s hs => by simp at hs, by simp⟩, by simp, fun s hs => by simp at hs, Ups.nil⟩
end Go.Proofs.Ytfbjjbbhnmoolaa.P
namespace Go.Proofs.Ytfbjjbbhnmoolaa.P
open Go.RowKit Go.Shelf Go.Proofs.YtfbjjbbhnmoolaaW.PrintWords Go.Proofs.YtfbjjbbhnmoolaaW.PrintLast Go.Proofs.YtfbjjbbhnmoolaaW.PrintMore
def sameNums (a b : Hi) : Prop := a.f0 = b.f0 ∧ a.f1 = b.f1 ∧ a.f2 = b.f2 ∧ a.f3 = b.f3 ∧ a.f4 = b.f4
instance (a b : Hi) : Decidable (sameNums a b) := by unfold sameNums; exact inferInstance
end Go.Proofs.Ytfbjjbbhnmoolaa.P
namespace Go.Proofs.Ytfbjjbbhnmoolaa.P
open Go.RowKit Go.Shelf Go.Proofs.YtfbjjbbhnmoolaaW.PrintWords Go.Proofs.YtfbjjbbhnmoolaaW.PrintLast Go.Proofs.YtfbjjbbhnmoolaaW.PrintMore
theorem spanCheck_c (l : List Sp) (hw : wfSps l) (w : World) (v : Value) (hv : SI kSp w v l) : Calls Try.prog 104 #[v] w fun e w' => e = .returned (.int .i64 (spCheck l)) ∧ Below w.heap.size w w' := by
  obtain ⟨A, c, rfl, hc, hr⟩ := hv
  exact span_Check.calls 2049 A c l _ w hr hc (check_eq l hw _ (by omega))
theorem cloneSp_c (l : List Sp) (hm : l.length ≤ 4096) (w : World) (A : Option Addr) (c : Nat) (hv : SI kSp w (.slice A l.length c) l) : Calls Try.prog 51 #[.slice A l.length c] w fun e w' =>
    ∃ v0, e = .returned v0 ∧ FI kSp w.heap.size w' v0 l ∧ Below w.heap.size w w' := by
  obtain ⟨_, _, e1, hc1, hr1⟩ := hv
  cases e1
  refine (slices_Clone_span.calls A c l l w hr1 hc1 (by unfold slices_Clone_span.f; rw [if_pos (by omega)])).mono ?_
  rintro e w1 ⟨v0, rfl, h0, hb⟩
  exact ⟨v0, rfl, .of_R h0 (Nat.le_refl _), hb⟩
theorem _root_.Go.RowKit.Below.set1 {B : Nat} {w W : World} {g i : Nat} {u : Value} (h : Below B w W) (hg : B ≤ g) : Below B w (W.setCell ⟨g, i, none⟩ u) := h.setCell (p := ⟨g, i, none⟩) hg u
end Go.Proofs.Ytfbjjbbhnmoolaa.P
namespace Go.Proofs.Ytfbjjbbhnmoolaa.P
open Go.RowKit Go.Shelf Go.Proofs.YtfbjjbbhnmoolaaW.PrintWords Go.Proofs.YtfbjjbbhnmoolaaW.PrintLast Go.Proofs.YtfbjjbbhnmoolaaW.PrintMore
def Blk (w : World) (g : Nat) (cs : Array Value) (t : TypeId) : Prop := w.heap[g]? = some (.cells cs t (0, 0))
theorem Blk.below {w w' : World} {g : Nat} {cs : Array Value} {t : TypeId} (h : Blk w g cs t) (hb : Below w.heap.size w w') : Blk w' g cs t := blk_below h hb
theorem Blk.cell {w : World} {g : Nat} {cs : Array Value} {t : TypeId} (h : Blk w g cs t) (i : Nat) : w.cell? ⟨g, i, none⟩ = cs[i]? := blk_cell h i
theorem Blk.new (w : World) (cs : Array Value) (t : TypeId) : Blk (w.alloc (.cells cs t)) w.heap.size cs t := blk_new w _
theorem Blk.alloc {w : World} {g : Nat} {cs : Array Value} {t : TypeId} (h : Blk w g cs t) (o : Obj) : Blk (w.alloc o) g cs t := blk_alloc h o
theorem Blk.at1 {w : World} (o : Obj) (cs : Array Value) (t : TypeId) : Blk ((w.alloc o).alloc (.cells cs t)) (w.heap.size + 1) cs t := by have := Blk.new (w.alloc o) cs t; simpa using this
abbrev kRsp := k117
def HR (w : World) (v : Value) (h : Hi) : Prop :=
  ∃ v5 v6 v7 v8, v = .agg #[.int .i64 h.f0, .int .u64 h.f1, .int .u64 h.f2, .int .u64 h.f3, .int .u64 h.f4, v5, v6, v7, v8] ∧ SI kRsp w v5 (h.f5.map toR) ∧ SI kRsp w v6 (h.f6.map toR) ∧ SI (Kd.int .i64) w v7 h.f7 ∧ SI (Kd.int .i64) w v8 h.f8
theorem HR.below {w w' : World} {v : Value} {h : Hi} (x : HR w v h) (hb : Below w.heap.size w w') : HR w' v h := by
  obtain ⟨v5, v6, v7, v8, e, h5, h6, h7, h8⟩ := x
  exact ⟨v5, v6, v7, v8, e, h5.below hb, h6.below hb, h7.below hb, h8.below hb⟩
theorem HR.open_ {w : World} {v : Value} {h : Hi} (x : HR w v h) : ∃ A5 c5 A6 c6 A7 c7 A8 c8, v = .agg #[.int .i64 h.f0, .int .u64 h.f1, .int .u64 h.f2, .int .u64 h.f3, .int .u64 h.f4, .slice A5 h.f5.length c5, .slice A6 h.f6.length c6, .slice A7 h.f7.length c7, .slice A8 h.f8.length c8] ∧
    SI kRsp w (.slice A5 h.f5.length c5) (h.f5.map toR) ∧ SI kRsp w (.slice A6 h.f6.length c6) (h.f6.map toR) ∧ SI (Kd.int .i64) w (.slice A7 h.f7.length c7) h.f7 ∧ SI (Kd.int .i64) w (.slice A8 h.f8.length c8) h.f8 := by
  obtain ⟨v5, v6, v7, v8, rfl, h5, h6, h7, h8⟩ := x
  obtain ⟨A5, c5, rfl, h51, h52⟩ := h5
  obtain ⟨A6, c6, rfl, h61, h62⟩ := h6
  obtain ⟨A7, c7, rfl, h71, h72⟩ := h7
  obtain ⟨A8, c8, rfl, h81, h82⟩ := h8
  rw [List.length_map]
  rw [List.length_map]
  refine ⟨A5, c5, A6, c6, A7, c7, A8, c8, rfl, ⟨A5, c5, by rw [List.length_map], h51, h52⟩, ⟨A6, c6, by rw [List.length_map], h61, h62⟩, .of h72 h71, .of h82 h81⟩
end Go.Proofs.Ytfbjjbbhnmoolaa.P
namespace Go.Proofs.Ytfbjjbbhnmoolaa.P
open Go.RowKit Go.Proofs.YtfbjjbbhnmoolaaW.PrintWords Go.Proofs.YtfbjjbbhnmoolaaW.PrintLast Go.Proofs.YtfbjjbbhnmoolaaW.PrintMore
attribute [local go_sem] max2_int min2_int max_two min_two max_three min_three max_four min_four
attribute [local go_sem high] eqA137
def pairs_Pair_uint64_144.l0 : Nat → List (S137) → List (S137) → Int → Int → Option (Bool)
 | 0, _, _, _, _ => none
 | k + 1, x0, x1, x12, x13 => if x13 < x12 then (if 0 ≤ x13 then (if x13 < (x0.length : Int) then (if x13 < (x1.length : Int) then (if (!(((rd_T137 x0 x13).f0) == ((rd_T137 x1 x13).f0)) || (!(((rd_T137 x0 x13).f1) == ((rd_T137 x1 x13).f1)))) = true then (some false) else (pairs_Pair_uint64_144.l0 k x0 x1 x12 (wrap64 (x13 + 1)))) else (none)) else (none)) else (none)) else (some true)
def pairs_Pair_uint64_144.f (k : Nat) (l0 : List (S137)) (l1 : List (S137)) : Option (Bool) := if (l0.length : Int) = (l1.length : Int) then (pairs_Pair_uint64_144.l0 k l0 l1 (l0.length : Int) 0) else (some false)
set_option maxHeartbeats 8000000 in
set_option maxRecDepth 100000 in
theorem pairs_Pair_uint64_144.calls (k : Nat) (A0 : Option Addr) (c0 : Nat) (l0 : List (S137)) (A1 : Option Addr) (c1 : Nat) (l1 : List (S137)) (r : Bool) (w : World) (hr0 : Kd.C k137 w A0 l0.length l0) (hc0 : l0.length ≤ c0) (hr1 : Kd.C k137 w A1 l1.length l1) (hc1 : l1.length ≤ c1) (h : pairs_Pair_uint64_144.f k l0 l1 = some r) :
  Calls Try.prog 144 #[.slice A0 l0.length c0, .slice A1 l1.length c1] w fun e w' => e = .returned (.bool r) ∧ Drawn0 w w' := by
 have hu137 := Try.underlying137
 have HR0 := Aside0.mk hr0
 have HC0 := Aside0.mk hc0
 clear hr0 hc0
 have HR1 := Aside0.mk hr1
 have HC1 := Aside0.mk hc1
 clear hr1 hc1
 have H : (if (l0.length : Int) = (l1.length : Int) then (pairs_Pair_uint64_144.l0 k l0 l1 (l0.length : Int) 0) else (some false)) = some r := h
 clear h
 by_cases c3 : (l0.length : Int) = (l1.length : Int)
 ·rw [if_pos c3] at H
  have c3b0 : ((l0.length : Int) == (l1.length : Int)) = true := beq_iff_eq.mpr c3
  have c3b1 : ((l0.length : Int) != (l1.length : Int)) = false := bne_eq_false_iff_eq.mpr c3
  have c3b2 : (l0.length == l1.length) = true := by first | simpa using c3 | (simp at c3 ⊢; omega)
  clear c3
  have H' := Aside0.mk H
  clear H
  go_enter Try.func144, Try.ntmps144
  go_wp2
  repeat (go_quiet (fail); try go_wp2)
  go_loopg [13] k (fun kq v13 w' => ∃ (x13_1 : Int), v13 = .int .i64 x13_1 ∧ Aside0 (pairs_Pair_uint64_144.l0 kq l0 l1 (l0.length : Int) x13_1 = some r) ∧ Aside0 (kq ≤ k) ∧ Drawn0 w w')
  case atStart => exact ⟨(0), (by first | rfl | (simp; done) | (simp [*]; done)), H', ⟨Nat.le_refl _⟩, by repeat (first | exact Drawn0.refl _ | apply Drawn0.step)⟩
  case round =>
   clear H'
   try clear c1
   try clear p2
   try clear c3
   try clear c3b0
   try clear c3b1
   try clear c3b2
   obtain ⟨x13_1, rfl, HA, HK1, ⟨m1, rfl⟩⟩ := hrel
   cases gk with
   | zero => exact absurd HA.out (by simp [pairs_Pair_uint64_144.l0])
   | succ k1 =>
    have H := HA.out
    clear HA
    simp only [pairs_Pair_uint64_144.l0] at H
    by_cases c4 : x13_1 < (l0.length : Int)
    ·rw [if_pos c4] at H
     have c4b0 : decide (x13_1 < (l0.length : Int)) = true := decide_eq_true c4
     clear c4
     by_cases c5 : 0 ≤ x13_1
     ·rw [if_pos c5] at H
      have c5b0 : decide (0 ≤ x13_1) = true := decide_eq_true c5
      clear c5
      by_cases c6 : x13_1 < (l0.length : Int)
      ·rw [if_pos c6] at H
       have c6b0 : decide (x13_1 < (l0.length : Int)) = true := decide_eq_true c6
       clear c6
       by_cases c7 : x13_1 < (l1.length : Int)
       ·rw [if_pos c7] at H
        have c7b0 : decide (x13_1 < (l1.length : Int)) = true := decide_eq_true c7
        clear c7
        by_cases c8 : (!(((rd_T137 l0 x13_1).f0) == ((rd_T137 l1 x13_1).f0)) || (!(((rd_T137 l0 x13_1).f1) == ((rd_T137 l1 x13_1).f1)))) = true
        ·rw [if_pos c8] at H
         have c8b0 : (!(((rd_T137 l0 x13_1).f0) == ((rd_T137 l1 x13_1).f0)) || (!(((rd_T137 l0 x13_1).f1) == ((rd_T137 l1 x13_1).f1)))) = true := c8
         clear c8
         obtain rfl := Option.some.inj H
         have p101 : 0 ≤ (x13_1 : Int) := of_decide_eq_true (by first | (with_reducible assumption) | assumption)
         have q101 : x13_1 < (l0.length : Int) := of_decide_eq_true (by first | (with_reducible assumption) | assumption)
         obtain ⟨ad101, e101, hx101_0, hx101_1⟩ := at_T137 HR0.out x13_1 p101 q101
         cases e101
         replace p101 := eq_true p101
         replace q101 := eq_true q101
         have p102 : 0 ≤ (x13_1 : Int) := of_decide_eq_true (by first | (with_reducible assumption) | assumption)
         have q102 : x13_1 < (l1.length : Int) := of_decide_eq_true (by first | (with_reducible assumption) | assumption)
         obtain ⟨ad102, e102, hx102_0, hx102_1⟩ := at_T137 HR1.out x13_1 p102 q102
         cases e102
         replace p102 := eq_true p102
         replace q102 := eq_true q102
         go_wp2
         repeat (go_quiet (fail); try go_wp2)
         go_ret
         exact ⟨by first | rfl | (simp; done) | (simp [*]; done), by repeat (first | exact Drawn0.refl _ | apply Drawn0.step)⟩
        ·rw [if_neg c8] at H
         have c8b0 : (!(((rd_T137 l0 x13_1).f0) == ((rd_T137 l1 x13_1).f0)) || (!(((rd_T137 l0 x13_1).f1) == ((rd_T137 l1 x13_1).f1)))) = false := by simpa using c8
         clear c8
         have H' := Aside0.mk H
         clear H
         have p101 : 0 ≤ (x13_1 : Int) := of_decide_eq_true (by first | (with_reducible assumption) | assumption)
         have q101 : x13_1 < (l0.length : Int) := of_decide_eq_true (by first | (with_reducible assumption) | assumption)
         obtain ⟨ad101, e101, hx101_0, hx101_1⟩ := at_T137 HR0.out x13_1 p101 q101
         cases e101
         replace p101 := eq_true p101
         replace q101 := eq_true q101
         have p102 : 0 ≤ (x13_1 : Int) := of_decide_eq_true (by first | (with_reducible assumption) | assumption)
         have q102 : x13_1 < (l1.length : Int) := of_decide_eq_true (by first | (with_reducible assumption) | assumption)
         obtain ⟨ad102, e102, hx102_0, hx102_1⟩ := at_T137 HR1.out x13_1 p102 q102
         cases e102
         replace p102 := eq_true p102
         replace q102 := eq_true q102
         go_wp2
         repeat (go_quiet (fail); try go_wp2)
         go_roundg k1
         case measure => have := HK1.out; omega
         case rel => exact ⟨(wrap64 (x13_1 + 1)), (by first | rfl | (simp; done) | (simp [*]; done)), H', ⟨by have := HK1.out; omega⟩, by repeat (first | exact Drawn0.refl _ | apply Drawn0.step)⟩
       ·rw [if_neg c7] at H
        exact absurd H (by simp)
      ·rw [if_neg c6] at H
       exact absurd H (by simp)
     ·rw [if_neg c5] at H
      exact absurd H (by simp)
    ·rw [if_neg c4] at H
     have c4b0 : decide (x13_1 < (l0.length : Int)) = false := decide_eq_false c4
     clear c4
     obtain rfl := Option.some.inj H
     go_wp2
     repeat (go_quiet (fail); try go_wp2)
     go_ret
     exact ⟨by first | rfl | (simp; done) | (simp [*]; done), by repeat (first | exact Drawn0.refl _ | apply Drawn0.step)⟩
 ·rw [if_neg c3] at H
  have c3b0 : ((l0.length : Int) == (l1.length : Int)) = false := beq_eq_false_iff_ne.mpr c3
  have c3b1 : ((l0.length : Int) != (l1.length : Int)) = true := bne_iff_ne.mpr c3
  have c3b2 : (l0.length == l1.length) = false := by first | simpa using c3 | (simp at c3 ⊢; omega)
  obtain rfl := Option.some.inj H
  go_enter Try.func144, Try.ntmps144
  go_wp2
  repeat (go_quiet (fail); try go_wp2)
  go_ret
  exact ⟨by first | rfl | (simp; done) | (simp [*]; done), by repeat (first | exact Drawn0.refl _ | apply Drawn0.step)⟩
end Go.Proofs.Ytfbjjbbhnmoolaa.P
namespace Go.Proofs.Ytfbjjbbhnmoolaa.P
open Go.RowKit Go.Proofs.YtfbjjbbhnmoolaaW.PrintWords Go.Proofs.YtfbjjbbhnmoolaaW.PrintLast Go.Proofs.YtfbjjbbhnmoolaaW.PrintMore
attribute [local go_sem] max2_int min2_int max_two min_two max_three min_three max_four min_four
def pairs_Zip_uint64.l0 : Nat → List Int → List (S137) → List Int → Int → Int → Option ((List (S137)) × Int)
 | 0, _, _, _, _, _ => none
 | k + 1, x1, x8, x26, x27, x28 => if x28 < x27 then (if 0 ≤ x28 then (if x28 < (x26.length : Int) then (if x28 < (x1.length : Int) then (if x8.length < 8796093022208 then (pairs_Zip_uint64.l0 k x1 (x8 ++ [(⟨rd x26 x28, rd x1 x28⟩ : S137)]) x26 x27 (wrap64 (x28 + 1))) else (none)) else (none)) else (none)) else (none)) else (some (x8, 0))
def pairs_Zip_uint64.f (k : Nat) (l0 : List (S86)) (l1 : List Int) : Option ((List (S137)) × Int) := (span_Places.f k l0).bind fun bt101 => (if bt101.2 = 0 then (if (bt101.1.length : Int) = (l1.length : Int) then (pairs_Zip_uint64.l0 k l1 ([] : List (S137)) bt101.1 (bt101.1.length : Int) 0) else (some (([] : List (S137)), 10))) else (some (([] : List (S137)), bt101.2)))
set_option maxHeartbeats 8000000 in
set_option maxRecDepth 100000 in
theorem pairs_Zip_uint64.calls (k : Nat) (A0 : Option Addr) (c0 : Nat) (l0 : List (S86)) (A1 : Option Addr) (c1 : Nat) (l1 : List Int) (r1 : List (S137)) (r2 : Int) (w : World) (hr0 : Kd.C k86 w A0 l0.length l0) (hc0 : l0.length ≤ c0) (hr1 : Kd.C (Kd.int .u64) w A1 l1.length l1) (hc1 : l1.length ≤ c1) (h : pairs_Zip_uint64.f k l0 l1 = some (r1, r2)) :
  Calls Try.prog 147 #[.slice A0 l0.length c0, .slice A1 l1.length c1] w fun e w' => ∃ v0_ : Value, e = .returned (.tuple #[v0_, .int .i64 r2]) ∧ Kd.R k137 137 w' w.heap.size (fun _ => True) v0_ r1 ∧ Below w.heap.size w w' := by
 have hu137 := Try.underlying137
 have HR0 := Aside0.mk hr0
 have HC0 := Aside0.mk hc0
 clear hr0 hc0
 have HR1 := Aside0.mk hr1
 have HC1 := Aside0.mk hc1
 clear hr1 hc1
 have HB := Aside0.mk (Below.refl w.heap.size w)
 have H : ((span_Places.f k l0).bind fun bt101 => (if bt101.2 = 0 then (if (bt101.1.length : Int) = (l1.length : Int) then (pairs_Zip_uint64.l0 k l1 ([] : List (S137)) bt101.1 (bt101.1.length : Int) 0) else (some (([] : List (S137)), 10))) else (some (([] : List (S137)), bt101.2)))) = some (r1, r2) := h
 clear h
 replace H := Option.bind_eq_some_iff.mp H
 obtain ⟨⟨t101, t102⟩, A30, H⟩ := H
 replace H : (if t102 = 0 then (if (t101.length : Int) = (l1.length : Int) then (pairs_Zip_uint64.l0 k l1 ([] : List (S137)) t101 (t101.length : Int) 0) else (some (([] : List (S137)), 10))) else (some (([] : List (S137)), t102))) = some (r1, r2) := H
 have A3 := Aside0.mk A30
 clear A30
 by_cases c4 : t102 = 0
 ·rw [if_pos c4] at H
  have c4b0 : (t102 == 0) = true := beq_iff_eq.mpr c4
  have c4b1 : (t102 != 0) = false := bne_eq_false_iff_eq.mpr c4
  clear c4
  by_cases c5 : (t101.length : Int) = (l1.length : Int)
  ·rw [if_pos c5] at H
   have c5b0 : ((t101.length : Int) == (l1.length : Int)) = true := beq_iff_eq.mpr c5
   have c5b1 : ((t101.length : Int) != (l1.length : Int)) = false := bne_eq_false_iff_eq.mpr c5
   have c5b2 : (t101.length == l1.length) = true := by first | simpa using c5 | (simp at c5 ⊢; omega)
   clear c5
   have H' := Aside0.mk H
   clear H
   go_enter Try.func147, Try.ntmps147
   go_wp2_with (first | ((with_reducible refine gate_callee (f := 152) rfl ?_); refine goesL_ (some 13) rfl rfl Try.func152 (by kernel_rfl) rfl #[.slice A0 l0.length c0] rfl (by (try simp only [List.map_toArray, List.map_cons, List.map_nil]); first | done | rfl | (simp only [List.length_drop, List.length_take]; rfl)) ?_; (with_reducible refine (span_Places.calls k _ _ l0 t101 t102 _ ?side1 ?side2 A3.out).mono ?_); (case side1 => repeat (first | exact HR0.out | (with_reducible refine Kd.C_alloc ?_ _) | (with_reducible refine Kd.C_drewN ?_ _) | (with_reducible refine Kd.C_drew ?_))); (case side2 => exact HC0.out); rintro e w6 ⟨v103, rfl, ho0, hb⟩; refine ⟨_, rfl, ?_⟩; have n0_ := Aside0.mk (Kd.R_lower ho0 (below_size (by repeat (first | (with_reducible first | exact HB.out | apply below_alloc | apply pw_below_drewN | apply below_drew1) | exact HB.out)))); have n1_ := Aside0.mk (below_step (by repeat (first | (with_reducible first | exact HB.out | apply below_alloc | apply pw_below_drewN | apply below_drew1) | exact HB.out)) hb); clear HB; have HO104 := n0_; have HB := n1_; clear n0_ n1_; (try clear hb); (try clear hb2); (try clear hk); (try clear hi); (try clear ho0); clear A3; obtain ⟨Ao7, co7, eo7⟩ := Kd.R_slice HO104.out; subst eo7))
   go_loopg [8, 28] k (fun kq v8 v28 w' => ∃ (x8_1 : List (S137)) (x28_1 : Int), v28 = .int .i64 x28_1 ∧ Aside0 (pairs_Zip_uint64.l0 kq l1 x8_1 t101 (t101.length : Int) x28_1 = some (r1, r2)) ∧ Aside0 (kq ≤ k) ∧ Aside0 (Kd.R k137 137 w' w.heap.size (fun _ => True) v8 x8_1) ∧ Aside0 (Kd.R (Kd.int .i64) 3 w' w.heap.size (fun _ => True) (.slice Ao7 t101.length co7) t101) ∧ Aside0 (Below w.heap.size w w'))
   case atStart => exact ⟨(([] : List (S137))), (0), (by first | rfl | (simp; done) | (simp [*]; done)), H', ⟨Nat.le_refl _⟩, ⟨by first | exact Kd.R_nil _ _ _ _ _ | exact Kd.N_nil _ _ _ _ _ | exact Kd.V_nil _ _ _ _ _ | exact Kd.Q_nil _ _ _ _ _ | exact Kd.S_nil _ _ _ _ _⟩, ⟨by (with_reducible repeat (first | apply Kd.R_alloc | apply Kd.R_drewN | apply Kd.R_drew)); exact HO104.out⟩, ⟨by repeat (first | (with_reducible first | exact HB.out | apply below_alloc | apply pw_below_drewN | apply below_drew1) | exact HB.out)⟩⟩
   case round =>
    clear H'
    try clear c1
    try clear p2
    try clear c4
    try clear c4b0
    try clear c4b1
    try clear c5
    try clear c5b0
    try clear c5b1
    try clear c5b2
    obtain ⟨x8_1, x28_1, rfl, HA, HK1, HO_8, HO_26, HB⟩ := hrel
    cases gk with
    | zero => exact absurd HA.out (by simp [pairs_Zip_uint64.l0])
    | succ k1 =>
     have H := HA.out
     clear HA
     simp only [pairs_Zip_uint64.l0] at H
     by_cases c8 : x28_1 < (t101.length : Int)
     ·rw [if_pos c8] at H
      have c8b0 : decide (x28_1 < (t101.length : Int)) = true := decide_eq_true c8
      clear c8
      by_cases c9 : 0 ≤ x28_1
      ·rw [if_pos c9] at H
       have c9b0 : decide (0 ≤ x28_1) = true := decide_eq_true c9
       clear c9
       by_cases c10 : x28_1 < (t101.length : Int)
       ·rw [if_pos c10] at H
        have c10b0 : decide (x28_1 < (t101.length : Int)) = true := decide_eq_true c10
        clear c10
        by_cases c11 : x28_1 < (l1.length : Int)
        ·rw [if_pos c11] at H
         have c11b0 : decide (x28_1 < (l1.length : Int)) = true := decide_eq_true c11
         clear c11
         by_cases c12 : x8_1.length < 8796093022208
         ·rw [if_pos c12] at H
          have LMc12 := Aside0.mk c12
          clear c12
          obtain ⟨y107, hy107⟩ : ∃ y_ : List (S137), y_ = (x8_1 ++ [(⟨rd t101 x28_1, rd l1 x28_1⟩ : S137)]) := ⟨_, rfl⟩
          replace H : (pairs_Zip_uint64.l0 k1 l1 y107 t101 (t101.length : Int) (wrap64 (x28_1 + 1))) = some (r1, r2) := by first | (rw [hy107]; with_reducible exact H) | (have H2_ := (Option.bind_some _ _).symm.trans H; rw [hy107]; with_reducible exact H2_) | (have H2_ := (Option.bind_some _ _).symm.trans H; with_reducible exact H2_) | with_reducible exact H | (rw [hy107]; exact H) | exact H
          have Ny107 := Aside0.mk hy107
          clear hy107
          have H' := Aside0.mk H
          clear H
          have p105 : 0 ≤ (x28_1 : Int) := of_decide_eq_true (by first | (with_reducible assumption) | assumption)
          have q105 : x28_1 < (t101.length : Int) := of_decide_eq_true (by first | (with_reducible assumption) | assumption)
          obtain ⟨ad105, e105, hx105_0⟩ := Kd.at_int (Kd.R_reads' HO_26.out).2.2 x28_1 p105 q105
          cases e105
          replace p105 := eq_true p105
          replace q105 := eq_true q105
          have p106 : 0 ≤ (x28_1 : Int) := of_decide_eq_true (by first | (with_reducible assumption) | assumption)
          have q106 : x28_1 < (l1.length : Int) := of_decide_eq_true (by first | (with_reducible assumption) | assumption)
          obtain ⟨ad106, e106, hx106_0⟩ := Kd.at_int HR1.out x28_1 p106 q106
          cases e106
          replace hx106_0 := (HB.out.cell (World.block_lt_of_cell? w _ hx106_0)).trans hx106_0
          replace p106 := eq_true p106
          replace q106 := eq_true q106
          go_wp2_with (first | ((with_reducible refine gate_builtin (b := .append) (xs := #[.tmp 33, .tmp 40]) rfl ?_); at_builtin; refine Kd.R_append k137 (w0 := w) w.heap.size rfl (.tmp 33) (.tmp 40) 99 137 (.agg #[(.int .i64 0), (.int .u64 0)]) 16 rfl Try.underlying99 info137 rfl (by decide) (by omega) u8 x8_1 (⟨rd t101 x28_1, rd l1 x28_1⟩ : S137) [.int .i64 (rd t101 x28_1), .int .u64 (rd l1 x28_1)] (fun _ => True) (fun _ => False) rfl rfl ?aP (fun _ hk => hk.elim) ?aF ?aO ?aB ?aS ?aL ?_; (case aP => exact k137_mkM _ _ _ (⟨rd t101 x28_1, rd l1 x28_1⟩ : S137)); (case aB => exact (by repeat (first | (with_reducible first | exact HB.out | apply below_alloc | apply pw_below_drewN | apply below_drew1) | exact HB.out))); (case aF => exact (fun _ _ => trivial)); (case aO => exact (by (with_reducible repeat (first | apply Kd.R_alloc | apply Kd.R_drewN | apply Kd.R_drew)); exact HO_8.out)); (case aS => exact (below_size (by repeat (first | (with_reducible first | exact HB.out | apply below_alloc | apply pw_below_drewN | apply below_drew1) | exact HB.out)))); (case aL => have := LMc12.out; omega); intro v108 w13 ho hb hg hat; rw [← Ny107.out] at ho; have n0_ := Aside0.mk (Kd.R_over' (by (with_reducible repeat (first | apply Kd.R_alloc | apply Kd.R_drewN | apply Kd.R_drew)); exact HO_26.out) (Kd.R_typed (by (with_reducible repeat (first | apply Kd.R_alloc | apply Kd.R_drewN | apply Kd.R_drew)); exact HO_8.out)) (by decide) hg); have n1_ := Aside0.mk (hb); have n2_ := Aside0.mk (ho); clear HO_26; clear HB; clear HO_8; have HO_26 := n0_; have HB := n1_; have HO109 := n2_; clear n0_ n1_ n2_; clear ho hb hg hat))
          go_roundg k1
          case measure => have := HK1.out; omega
          case rel => exact ⟨(y107), (wrap64 (x28_1 + 1)), (by first | rfl | (simp; done) | (simp [*]; done)), H', ⟨by have := HK1.out; omega⟩, ⟨by (with_reducible repeat (first | apply Kd.R_alloc | apply Kd.R_drewN | apply Kd.R_drew)); exact HO109.out⟩, ⟨by (with_reducible repeat (first | apply Kd.R_alloc | apply Kd.R_drewN | apply Kd.R_drew)); exact HO_26.out⟩, ⟨by repeat (first | (with_reducible first | exact HB.out | apply below_alloc | apply pw_below_drewN | apply below_drew1) | exact HB.out)⟩⟩
         ·rw [if_neg c12] at H
          exact absurd H (by simp)
        ·rw [if_neg c11] at H
         exact absurd H (by simp)
       ·rw [if_neg c10] at H
        exact absurd H (by simp)
      ·rw [if_neg c9] at H
       exact absurd H (by simp)
     ·rw [if_neg c8] at H
      have c8b0 : decide (x28_1 < (t101.length : Int)) = false := decide_eq_false c8
      clear c8
      simp only [Option.some.injEq, Prod.mk.injEq] at H
      obtain ⟨rfl, rfl⟩ := H
      go_wp2
      go_ret2
      exact ⟨_, by first | rfl | (simp [errW_none, errW_some] <;> rfl) | (simp [*, errW_none, errW_some] <;> rfl), by (with_reducible repeat (first | apply Kd.R_alloc | apply Kd.R_drewN | apply Kd.R_drew)); exact HO_8.out, by repeat (first | (with_reducible first | exact HB.out | apply below_alloc | apply pw_below_drewN | apply below_drew1) | exact HB.out)⟩
  ·rw [if_neg c5] at H
   have c5b0 : ((t101.length : Int) == (l1.length : Int)) = false := beq_eq_false_iff_ne.mpr c5
   have c5b1 : ((t101.length : Int) != (l1.length : Int)) = true := bne_iff_ne.mpr c5
   have c5b2 : (t101.length == l1.length) = false := by first | simpa using c5 | (simp at c5 ⊢; omega)
   simp only [Option.some.injEq, Prod.mk.injEq] at H
   obtain ⟨rfl, rfl⟩ := H
   go_enter Try.func147, Try.ntmps147
   go_wp2_with (first | ((with_reducible refine gate_callee (f := 152) rfl ?_); refine goesL_ (some 13) rfl rfl Try.func152 (by kernel_rfl) rfl #[.slice A0 l0.length c0] rfl (by (try simp only [List.map_toArray, List.map_cons, List.map_nil]); first | done | rfl | (simp only [List.length_drop, List.length_take]; rfl)) ?_; (with_reducible refine (span_Places.calls k _ _ l0 t101 t102 _ ?side1 ?side2 A3.out).mono ?_); (case side1 => repeat (first | exact HR0.out | (with_reducible refine Kd.C_alloc ?_ _) | (with_reducible refine Kd.C_drewN ?_ _) | (with_reducible refine Kd.C_drew ?_))); (case side2 => exact HC0.out); rintro e w14 ⟨v103, rfl, ho0, hb⟩; refine ⟨_, rfl, ?_⟩; have n0_ := Aside0.mk (Kd.R_lower ho0 (below_size (by repeat (first | (with_reducible first | exact HB.out | apply below_alloc | apply pw_below_drewN | apply below_drew1) | exact HB.out)))); have n1_ := Aside0.mk (below_step (by repeat (first | (with_reducible first | exact HB.out | apply below_alloc | apply pw_below_drewN | apply below_drew1) | exact HB.out)) hb); clear HB; have HO104 := n0_; have HB := n1_; clear n0_ n1_; (try clear hb); (try clear hb2); (try clear hk); (try clear hi); (try clear ho0); clear A3; obtain ⟨Ao15, co15, eo15⟩ := Kd.R_slice HO104.out; subst eo15))
   go_ret2
   exact ⟨_, by first | rfl | (simp [errW_none, errW_some] <;> rfl) | (simp [*, errW_none, errW_some] <;> rfl), by first | exact Kd.R_nil _ _ _ _ _ | exact Kd.N_nil _ _ _ _ _ | exact Kd.V_nil _ _ _ _ _ | exact Kd.Q_nil _ _ _ _ _ | exact Kd.S_nil _ _ _ _ _, by repeat (first | (with_reducible first | exact HB.out | apply below_alloc | apply pw_below_drewN | apply below_drew1) | exact HB.out)⟩
 ·rw [if_neg c4] at H
  have c4b0 : (t102 == 0) = false := beq_eq_false_iff_ne.mpr c4
  have c4b1 : (t102 != 0) = true := bne_iff_ne.mpr c4
  simp only [Option.some.injEq, Prod.mk.injEq] at H
  obtain ⟨rfl, rfl⟩ := H
  go_enter Try.func147, Try.ntmps147
  go_wp2_with (first | ((with_reducible refine gate_callee (f := 152) rfl ?_); refine goesL_ (some 13) rfl rfl Try.func152 (by kernel_rfl) rfl #[.slice A0 l0.length c0] rfl (by (try simp only [List.map_toArray, List.map_cons, List.map_nil]); first | done | rfl | (simp only [List.length_drop, List.length_take]; rfl)) ?_; (with_reducible refine (span_Places.calls k _ _ l0 t101 t102 _ ?side1 ?side2 A3.out).mono ?_); (case side1 => repeat (first | exact HR0.out | (with_reducible refine Kd.C_alloc ?_ _) | (with_reducible refine Kd.C_drewN ?_ _) | (with_reducible refine Kd.C_drew ?_))); (case side2 => exact HC0.out); rintro e w16 ⟨v103, rfl, ho0, hb⟩; refine ⟨_, rfl, ?_⟩; have n0_ := Aside0.mk (Kd.R_lower ho0 (below_size (by repeat (first | (with_reducible first | exact HB.out | apply below_alloc | apply pw_below_drewN | apply below_drew1) | exact HB.out)))); have n1_ := Aside0.mk (below_step (by repeat (first | (with_reducible first | exact HB.out | apply below_alloc | apply pw_below_drewN | apply below_drew1) | exact HB.out)) hb); clear HB; have HO104 := n0_; have HB := n1_; clear n0_ n1_; (try clear hb); (try clear hb2); (try clear hk); (try clear hi); (try clear ho0); clear A3))
  go_ret2
  exact ⟨_, by first | rfl | (simp [errW_none, errW_some] <;> rfl) | (simp [*, errW_none, errW_some] <;> rfl), by first | exact Kd.R_nil _ _ _ _ _ | exact Kd.N_nil _ _ _ _ _ | exact Kd.V_nil _ _ _ _ _ | exact Kd.Q_nil _ _ _ _ _ | exact Kd.S_nil _ _ _ _ _, by repeat (first | (with_reducible first | exact HB.out | apply below_alloc | apply pw_below_drewN | apply below_drew1) | exact HB.out)⟩
def pairs_Unzip_uint64.l0 : Nat → List Int → List Int → List (S137) → Int → Int → Option ((List (S86)) × List Int × Int)
 | 0, _, _, _, _, _ => none
 | k + 1, x5, x6, x11, x12, x13 => if x13 < x12 then (if 0 ≤ x13 then (if x13 < (x11.length : Int) then ((some (([(rd_T137 x11 x13).f0] : List Int) : List Int)).bind fun y103 => (if x5.length + y103.length < 17592186044416 then ((some (([(rd_T137 x11 x13).f1] : List Int) : List Int)).bind fun y109 => (if x6.length + y109.length < 17592186044416 then (pairs_Unzip_uint64.l0 k (x5 ++ y103) (x6 ++ y109) x11 x12 (wrap64 (x13 + 1))) else (none))) else (none))) else (none)) else (none)) else ((span_From.f k x5).bind fun bt115 => (if bt115.2 = 0 then (some (bt115.1, x6, 0)) else (some (([] : List (S86)), ([] : List Int), bt115.2))))
def pairs_Unzip_uint64.f (k : Nat) (l0 : List (S137)) : Option ((List (S86)) × List Int × Int) := pairs_Unzip_uint64.l0 k ([] : List Int) ([] : List Int) l0 (l0.length : Int) 0
def pairs_Unzip_uint64.T6 : Bool × List (List Nat × List Nat) := (true, [([], []), ([], []), ([1], [1]), ([2], [2]), ([0, 3], [0, 3]), ([], []), ([], []), ([6], [6]), ([7], [7]), ([5, 8, 4], [5, 8]), ([4, 9, 0, 1, 2, 3, 4], [0, 4]), ([9, 10, 0, 1, 2, 3, 4, 5, 6, 7, 8, 9, 10], [5, 9])])
def pairs_Unzip_uint64.B6 : List Nat := [0, 0, 2, 6, 15, 0, 0, 64, 192, 511, 1023, 2047]
theorem pairs_Unzip_uint64.tab6 : rtab .any (opsOf Try.f115 6) = pairs_Unzip_uint64.T6 := by kernel_rfl
theorem pairs_Unzip_uint64.bits6 : waitsOk pairs_Unzip_uint64.T6.2 pairs_Unzip_uint64.B6 = true := by kernel_rfl
set_option maxHeartbeats 8000000 in
set_option maxRecDepth 100000 in
theorem pairs_Unzip_uint64.calls (k : Nat) (A0 : Option Addr) (c0 : Nat) (l0 : List (S137)) (r1 : List (S86)) (r2 : List Int) (r3 : Int) (w : World) (hr0 : Kd.C k137 w A0 l0.length l0) (hc0 : l0.length ≤ c0) (h : pairs_Unzip_uint64.f k l0 = some (r1, r2, r3)) :
  Calls Try.prog 115 #[.slice A0 l0.length c0] w fun e w' => ∃ v0_ v1_ : Value, e = .returned (.tuple #[v0_, v1_, .int .i64 r3]) ∧ Kd.R k86 86 w' w.heap.size (fun _ => True) v0_ r1 ∧ Kd.R (Kd.int .u64) 22 w' w.heap.size (fun _ => True) v1_ r2 ∧ Below w.heap.size w w' := by
 have hu137 := Try.underlying137
 have HR0 := Aside0.mk hr0
 have HC0 := Aside0.mk hc0
 clear hr0 hc0
 have HB := Aside0.mk (Below.refl w.heap.size w)
 have H : (pairs_Unzip_uint64.l0 k ([] : List Int) ([] : List Int) l0 (l0.length : Int) 0) = some (r1, r2, r3) := h
 clear h
 have H' := Aside0.mk H
 clear H
 go_enter Try.func115, Try.ntmps115
 go_wp2
 go_loopg [5, 6, 13] k (fun kq v5 v6 v13 w' => ∃ (x5_1 : List Int) (x6_1 : List Int) (x13_1 : Int), v13 = .int .i64 x13_1 ∧ Aside0 (pairs_Unzip_uint64.l0 kq x5_1 x6_1 l0 (l0.length : Int) x13_1 = some (r1, r2, r3)) ∧ Aside0 (kq ≤ k) ∧ Aside0 (Kd.R (Kd.int .i64) 3 w' w.heap.size (fun _ => True) v5 x5_1) ∧ Aside0 (Kd.R (Kd.int .u64) 22 w' w.heap.size (fun _ => True) v6 x6_1) ∧ Aside0 (Below w.heap.size w w'))
 case atStart => exact ⟨(([] : List Int)), (([] : List Int)), (0), (by first | rfl | (simp; done) | (simp [*]; done)), H', ⟨Nat.le_refl _⟩, ⟨by first | exact Kd.R_nil _ _ _ _ _ | exact Kd.N_nil _ _ _ _ _ | exact Kd.V_nil _ _ _ _ _ | exact Kd.Q_nil _ _ _ _ _ | exact Kd.S_nil _ _ _ _ _⟩, ⟨by first | exact Kd.R_nil _ _ _ _ _ | exact Kd.N_nil _ _ _ _ _ | exact Kd.V_nil _ _ _ _ _ | exact Kd.Q_nil _ _ _ _ _ | exact Kd.S_nil _ _ _ _ _⟩, ⟨by repeat (first | (with_reducible first | exact HB.out | apply below_alloc | apply pw_below_drewN | apply below_drew1) | exact HB.out)⟩⟩
 case round =>
  clear H'
  try clear c1
  obtain ⟨x5_1, x6_1, x13_1, rfl, HA, HK1, HO_5, HO_6, HB⟩ := hrel
  cases gk with
  | zero => exact absurd HA.out (by simp [pairs_Unzip_uint64.l0])
  | succ k1 =>
   have H := HA.out
   clear HA
   simp only [pairs_Unzip_uint64.l0] at H
   by_cases c2 : x13_1 < (l0.length : Int)
   ·rw [if_pos c2] at H
    have c2b0 : decide (x13_1 < (l0.length : Int)) = true := decide_eq_true c2
    clear c2
    by_cases c3 : 0 ≤ x13_1
    ·rw [if_pos c3] at H
     have c3b0 : decide (0 ≤ x13_1) = true := decide_eq_true c3
     clear c3
     by_cases c4 : x13_1 < (l0.length : Int)
     ·rw [if_pos c4] at H
      have c4b0 : decide (x13_1 < (l0.length : Int)) = true := decide_eq_true c4
      clear c4
      obtain ⟨y103, hy103⟩ : ∃ y_ : List Int, y_ = (([(rd_T137 l0 x13_1).f0] : List Int)) := ⟨_, rfl⟩
      replace H : (if x5_1.length + y103.length < 17592186044416 then ((some (([(rd_T137 l0 x13_1).f1] : List Int) : List Int)).bind fun y109 => (if x6_1.length + y109.length < 17592186044416 then (pairs_Unzip_uint64.l0 k1 (x5_1 ++ y103) (x6_1 ++ y109) l0 (l0.length : Int) (wrap64 (x13_1 + 1))) else (none))) else (none)) = some (r1, r2, r3) := by first | (rw [hy103]; with_reducible exact H) | (have H2_ := (Option.bind_some _ _).symm.trans H; rw [hy103]; with_reducible exact H2_) | (have H2_ := (Option.bind_some _ _).symm.trans H; with_reducible exact H2_) | with_reducible exact H | (rw [hy103]; exact H) | exact H
      have Ny103 := Aside0.mk hy103
      clear hy103
      by_cases c5 : x5_1.length + y103.length < 17592186044416
      ·rw [if_pos c5] at H
       have LMc5 := Aside0.mk c5
       clear c5
       obtain ⟨y106, hy106⟩ : ∃ y_ : List Int, y_ = (x5_1 ++ y103) := ⟨_, rfl⟩
       replace H : ((some (([(rd_T137 l0 x13_1).f1] : List Int) : List Int)).bind fun y109 => (if x6_1.length + y109.length < 17592186044416 then (pairs_Unzip_uint64.l0 k1 y106 (x6_1 ++ y109) l0 (l0.length : Int) (wrap64 (x13_1 + 1))) else (none))) = some (r1, r2, r3) := by first | (rw [hy106]; with_reducible exact H) | (have H2_ := (Option.bind_some _ _).symm.trans H; rw [hy106]; with_reducible exact H2_) | (have H2_ := (Option.bind_some _ _).symm.trans H; with_reducible exact H2_) | with_reducible exact H | (rw [hy106]; exact H) | exact H
       have Ny106 := Aside0.mk hy106
       clear hy106
       obtain ⟨y109, hy109⟩ : ∃ y_ : List Int, y_ = (([(rd_T137 l0 x13_1).f1] : List Int)) := ⟨_, rfl⟩
       replace H : (if x6_1.length + y109.length < 17592186044416 then (pairs_Unzip_uint64.l0 k1 y106 (x6_1 ++ y109) l0 (l0.length : Int) (wrap64 (x13_1 + 1))) else (none)) = some (r1, r2, r3) := by first | (rw [hy109]; with_reducible exact H) | (have H2_ := (Option.bind_some _ _).symm.trans H; rw [hy109]; with_reducible exact H2_) | (have H2_ := (Option.bind_some _ _).symm.trans H; with_reducible exact H2_) | with_reducible exact H | (rw [hy109]; exact H) | exact H
       have Ny109 := Aside0.mk hy109
       clear hy109
       by_cases c6 : x6_1.length + y109.length < 17592186044416
       ·rw [if_pos c6] at H
        have LMc6 := Aside0.mk c6
        clear c6
        obtain ⟨y112, hy112⟩ : ∃ y_ : List Int, y_ = (x6_1 ++ y109) := ⟨_, rfl⟩
        replace H : (pairs_Unzip_uint64.l0 k1 y106 y112 l0 (l0.length : Int) (wrap64 (x13_1 + 1))) = some (r1, r2, r3) := by first | (rw [hy112]; with_reducible exact H) | (have H2_ := (Option.bind_some _ _).symm.trans H; rw [hy112]; with_reducible exact H2_) | (have H2_ := (Option.bind_some _ _).symm.trans H; with_reducible exact H2_) | with_reducible exact H | (rw [hy112]; exact H) | exact H
        have Ny112 := Aside0.mk hy112
        clear hy112
        have H' := Aside0.mk H
        clear H
        have p101 : 0 ≤ (x13_1 : Int) := of_decide_eq_true (by first | (with_reducible assumption) | assumption)
        have q101 : x13_1 < (l0.length : Int) := of_decide_eq_true (by first | (with_reducible assumption) | assumption)
        obtain ⟨ad101, e101, hx101_0, hx101_1⟩ := at_T137 HR0.out x13_1 p101 q101
        cases e101
        replace hx101_0 := (HB.out.cell (World.block_lt_of_cell? w _ hx101_0)).trans hx101_0
        replace hx101_1 := (HB.out.cell (World.block_lt_of_cell? w _ hx101_1)).trans hx101_1
        replace p101 := eq_true p101
        replace q101 := eq_true q101
        try go_wp2_with (first | ((with_reducible refine gate_dst (N := 8) rfl ?_); refine box_event ?hg (N := 8) ?hd (cs := #[.int .i64 0, .int .u64 0]) (t := 137) ?hr ?_; (case hd => rfl); (case hg => rfl); (case hr => first | (go_simp; done) | (go_simp; rfl)); intro gb102 hg w7 hbox hb; have n0_ := Aside0.mk (Kd.R_below (by (with_reducible repeat (first | apply Kd.R_alloc | apply Kd.R_drewN | apply Kd.R_drew)); exact HO_5.out) hb); have n1_ := Aside0.mk (Kd.R_below (by (with_reducible repeat (first | apply Kd.R_alloc | apply Kd.R_drewN | apply Kd.R_drew)); exact HO_6.out) hb); have n2_ := Aside0.mk (below_step (by repeat (first | (with_reducible first | exact HB.out | apply below_alloc | apply pw_below_drewN | apply below_drew1) | exact HB.out)) hb); have n3_ := Aside0.mk (hbox); have n4_ := Aside0.mk ((by rw [hg]; exact (below_size (by repeat (first | (with_reducible first | exact HB.out | apply below_alloc | apply pw_below_drewN | apply below_drew1) | exact HB.out))) : w.heap.size ≤ gb102)); have n5_ := Aside0.mk ((by rw [hg]; exact (below_size (by repeat (first | (with_reducible first | exact HB.out | apply below_alloc | apply pw_below_drewN | apply below_drew1) | exact HB.out))) : w.heap.size ≤ gb102)); clear HO_5; clear HO_6; clear HB; have HO_5 := n0_; have HO_6 := n1_; have HB := n2_; have BK102 := n3_; have GW102 := n4_; have GE102 := n5_; clear n0_ n1_ n2_ n3_ n4_ n5_; clear hb hbox hg; have hcz8_0 : w7.cell? ⟨gb102, 0, none⟩ = some (.int .i64 0) := (blk_cell BK102.out 0).trans rfl; have hcz8_1 : w7.cell? ⟨gb102, 1, none⟩ = some (.int .u64 0) := (blk_cell BK102.out 1).trans rfl; have hfz8_0 := blk_frozen BK102.out 0; have hfz8_1 := blk_frozen BK102.out 1; obtain ⟨Ao9, co9, eo9⟩ := Kd.R_slice HO_5.out; subst eo9; obtain ⟨Ao10, co10, eo10⟩ := Kd.R_slice HO_6.out; subst eo10))
        have n0_ : Aside0 (Kd.R (Kd.int .i64) 3 ((w7.setCell ⟨gb102, 0, none⟩ (.int .i64 ((rd_T137 l0 x13_1).f0))).setCell ⟨gb102, 1, none⟩ (.int .u64 ((rd_T137 l0 x13_1).f1))) w.heap.size (fun _ => True) (.slice Ao9 x5_1.length co9) x5_1) := ⟨by (with_reducible repeat (first | apply Kd.R_alloc | apply Kd.R_drewN | apply Kd.R_drew)); exact Kd.R_mono (Kd.R_far (p := ⟨gb102, 1, none⟩) (Kd.R_far (p := ⟨gb102, 0, none⟩) (Kd.R_types HO_5.out BK102.out (by decide)) (fun _ hk => hk.2) (.int .i64 ((rd_T137 l0 x13_1).f0))) (fun _ hk => hk.2) (.int .u64 ((rd_T137 l0 x13_1).f1))) (fun _ hk => trivial)⟩
        have n1_ : Aside0 (Kd.R (Kd.int .u64) 22 ((w7.setCell ⟨gb102, 0, none⟩ (.int .i64 ((rd_T137 l0 x13_1).f0))).setCell ⟨gb102, 1, none⟩ (.int .u64 ((rd_T137 l0 x13_1).f1))) w.heap.size (fun _ => True) (.slice Ao10 x6_1.length co10) x6_1) := ⟨by (with_reducible repeat (first | apply Kd.R_alloc | apply Kd.R_drewN | apply Kd.R_drew)); exact Kd.R_mono (Kd.R_far (p := ⟨gb102, 1, none⟩) (Kd.R_far (p := ⟨gb102, 0, none⟩) (Kd.R_types HO_6.out BK102.out (by decide)) (fun _ hk => hk.2) (.int .i64 ((rd_T137 l0 x13_1).f0))) (fun _ hk => hk.2) (.int .u64 ((rd_T137 l0 x13_1).f1))) (fun _ hk => trivial)⟩
        have n2_ : Aside0 (((w7.setCell ⟨gb102, 0, none⟩ (.int .i64 ((rd_T137 l0 x13_1).f0))).setCell ⟨gb102, 1, none⟩ (.int .u64 ((rd_T137 l0 x13_1).f1))).heap[gb102]? = some (.cells #[.int .i64 ((rd_T137 l0 x13_1).f0), .int .u64 ((rd_T137 l0 x13_1).f1)] 137 (0, 0))) := ⟨by (with_reducible repeat (first | refine blk_drewN ?_ _ | refine blk_drew ?_ | refine blk_alloc ?_ _)); refine blk_put (cs := #[.int .i64 ((rd_T137 l0 x13_1).f0), .int .u64 0]) ?_ 1 _ rfl; (with_reducible repeat (first | refine blk_drewN ?_ _ | refine blk_drew ?_ | refine blk_alloc ?_ _)); refine blk_put (cs := #[.int .i64 0, .int .u64 0]) ?_ 0 _ rfl; (with_reducible repeat (first | refine blk_drewN ?_ _ | refine blk_drew ?_ | refine blk_alloc ?_ _)); exact BK102.out⟩
        have n3_ : Aside0 (Below w.heap.size w ((w7.setCell ⟨gb102, 0, none⟩ (.int .i64 ((rd_T137 l0 x13_1).f0))).setCell ⟨gb102, 1, none⟩ (.int .u64 ((rd_T137 l0 x13_1).f1)))) := ⟨by repeat (first | (with_reducible first | exact HB.out | apply below_alloc | apply pw_below_drewN | apply below_drew1 | refine below_set ?_ GE102.out) | exact HB.out)⟩
        (try clear HO_5)
        (try clear HO_6)
        (try clear BK102)
        (try clear HB)
        generalize ((w7.setCell ⟨gb102, 0, none⟩ (.int .i64 ((rd_T137 l0 x13_1).f0))).setCell ⟨gb102, 1, none⟩ (.int .u64 ((rd_T137 l0 x13_1).f1))) = w11 at n0_ n1_ n2_ n3_ ⊢
        have HO_5 := n0_
        have HO_6 := n1_
        have BK102 := n2_
        have HB := n3_
        clear n0_ n1_ n2_ n3_
        have n0_ := Aside0.mk (Kd.R_drew HO_5.out)
        have n1_ := Aside0.mk (Kd.R_drew HO_6.out)
        have n2_ := Aside0.mk (blk_drew BK102.out)
        have n3_ := Aside0.mk (below_drew1 HB.out)
        clear HO_5
        clear HO_6
        clear BK102
        clear HB
        have HO_5 := n0_
        have HO_6 := n1_
        have BK102 := n2_
        have HB := n3_
        clear n0_ n1_ n2_ n3_
        refine start_ (n := 12) (S := fun w' => w'.cell? ⟨gb102, 0, none⟩ = some (.int .i64 ((rd_T137 l0 x13_1).f0)) ∧ w'.cell? ⟨gb102, 1, none⟩ = some (.int .u64 ((rd_T137 l0 x13_1).f1))) (ds := []) #[false, false, false, false, false, false, false, false, false, false, false, false] (by kernel_rfl) rfl rfl ⟨(blk_cell BK102.out 0).trans rfl, (blk_cell BK102.out 1).trans rfl⟩ (fun hHeld => ?_); refine with_tabW pairs_Unzip_uint64.tab6 pairs_Unzip_uint64.bits6 (fun HT_ HW_ => ?_)
        generalize w11.drew = w12 at HO_5 HO_6 BK102 HB hHeld ⊢
        refine pure_ (i := 0) (N := some 17) (v := ?_) (a' := ?_) #[true, false, false, false, false, false, false, false, false, false, false, false] rfl rfl (any_of HT_.out (by kernel_rfl)) (fun _ _ _ h => h) (Or.inl ⟨by rfl, ?_⟩) ?_ ?_
        rotate_left
        ·intro w'
         go_simp
         with_reducible rfl
        rotate_left
        ·simp only [Act.put, List.setIfInBounds_toArray, List.set_cons_zero, List.set_cons_succ, i64_w, i32_w]
         rfl
        refine pure_ (i := 1) (N := some 18) (v := ?_) (a' := ?_) #[true, true, false, false, false, false, false, false, false, false, false, false] rfl rfl (any_of HT_.out (by kernel_rfl)) (fun _ _ _ h => h) (Or.inl ⟨by rfl, ?_⟩) ?_ ?_
        rotate_left
        ·intro w'
         go_simp
         with_reducible rfl
        rotate_left
        ·simp only [Act.put, List.setIfInBounds_toArray, List.set_cons_zero, List.set_cons_succ, i64_w, i32_w]
         rfl
        refine pure_ (i := 5) (N := some 22) (v := ?_) (a' := ?_) #[true, true, false, false, false, true, false, false, false, false, false, false] rfl rfl (any_of HT_.out (by kernel_rfl)) (fun _ _ _ h => h) (Or.inl ⟨by rfl, ?_⟩) ?_ ?_
        rotate_left
        ·intro w'
         go_simp
         with_reducible rfl
        rotate_left
        ·simp only [Act.put, List.setIfInBounds_toArray, List.set_cons_zero, List.set_cons_succ, i64_w, i32_w]
         rfl
        refine pure_ (i := 6) (N := some 23) (v := ?_) (a' := ?_) #[true, true, false, false, false, true, true, false, false, false, false, false] rfl rfl (any_of HT_.out (by kernel_rfl)) (fun _ _ _ h => h) (Or.inl ⟨by rfl, ?_⟩) ?_ ?_
        rotate_left
        ·intro w'
         go_simp
         with_reducible rfl
        rotate_left
        ·simp only [Act.put, List.setIfInBounds_toArray, List.set_cons_zero, List.set_cons_succ, i64_w, i32_w]
         rfl
        refine take_ (i := 2) (N := some 19) (v := ?_) (a' := ?_) #[true, true, true, false, false, true, true, false, false, false, false, false] rfl rfl (take_ofW HT_.out HW_.out (by kernel_rfl)) (fun _ _ _ h => h) (Or.inl ⟨by rfl, ?_⟩) hHeld ?_ ?_
        rotate_left
        ·rintro w' ⟨s0, s1⟩
         go_simp
         with_reducible rfl
        rotate_left
        ·simp only [Act.put, List.setIfInBounds_toArray, List.set_cons_zero, List.set_cons_succ, i64_w, i32_w]
         rfl
        refine take_ (i := 7) (N := some 24) (v := ?_) (a' := ?_) #[true, true, true, false, false, true, true, true, false, false, false, false] rfl rfl (take_ofW HT_.out HW_.out (by kernel_rfl)) (fun _ _ _ h => h) (Or.inl ⟨by rfl, ?_⟩) hHeld ?_ ?_
        rotate_left
        ·rintro w' ⟨s0, s1⟩
         go_simp
         with_reducible rfl
        rotate_left
        ·simp only [Act.put, List.setIfInBounds_toArray, List.set_cons_zero, List.set_cons_succ, i64_w, i32_w]
         rfl
        refine join_ (σ := Value × Value × Value) 3 #[true, true, true, true, true, true, true, true, true, false, false, false] (fun s_ => [(20, s_.1), (21, s_.2.1), (25, s_.2.2)]) (fun s_ w' => (w'.cell? ⟨gb102, 0, none⟩ = some (.int .i64 ((rd_T137 l0 x13_1).f0)) ∧ w'.cell? ⟨gb102, 1, none⟩ = some (.int .u64 ((rd_T137 l0 x13_1).f1))) ∧ (Kd.R (Kd.int .i64) 3 w' w.heap.size (fun k_ => some k_ ≠ (s_.2.1 : Value).ownBlock) s_.1 y103) ∧ (Kd.R (Kd.int .i64) 3 w' w.heap.size (fun k_ => some k_ ≠ (s_.1 : Value).ownBlock) s_.2.1 y106) ∧ (Kd.R (Kd.int .u64) 22 w' w.heap.size (fun k_ => some k_ ≠ (.slice Ao10 x6_1.length co10 : Value).ownBlock) s_.2.2 y109) ∧ (Kd.R (Kd.int .u64) 22 w' w.heap.size (fun k_ => some k_ ≠ (s_.2.2 : Value).ownBlock) (.slice Ao10 x6_1.length co10) x6_1) ∧ (w'.heap[gb102]? = some (.cells #[.int .i64 ((rd_T137 l0 x13_1).f0), .int .u64 ((rd_T137 l0 x13_1).f1)] 137 (0, 0))) ∧ (Below w.heap.size w w')) ?_ ?_
        rotate_left
        ·intro hCont
         refine two_ (i := 3) (j := 8) (Ni := some 20) (Nj := some 25) #[true, true, true, true, false, true, true, true, false, false, false, false] #[true, true, true, false, false, true, true, true, true, false, false, false] rfl rfl rfl rfl (two_of HT_.out (by kernel_rfl)) (by decide) (by decide) (fun K hK => ?_) (fun K hK => ?_)
         ·skip
          refine Kd.R_lit_step (Kd.int .i64) _ 3 ?hg (N := 20) ?hd (xs := ([(rd_T137 l0 x13_1).f0] : List Int)) (inner := [.int .i64 ((rd_T137 l0 x13_1).f0)]) (ok := fun _ => True) (okp := fun _ => True) ?hr ?hp (fun _ hk => hk) trivial (Below.refl _ _) (Nat.le_refl _) (by simp) ?_; (case hd => rfl); (case hg => rfl); (case hr => first | (go_simp; done) | (go_simp; rfl)); (case hp => exact (Reps.one (show Kd.M (Kd.int .i64) _ _ _ ((rd_T137 l0 x13_1).f0) [.int .i64 ((rd_T137 l0 x13_1).f0)] from rfl) (Reps.none _ _)))
          intro v104 w13 ho14 hb hg_ hnew_
          clear hg_ hnew_
          (first | rw [← Ny103.out] at ho14 | (simp only [Int.reduceToNat] at ho14; rw [← Ny103.out] at ho14))
          have n0_ := Aside0.mk (Kd.R_elder' (by (with_reducible repeat (first | apply Kd.R_alloc | apply Kd.R_drewN | apply Kd.R_drew)); exact HO_5.out) (Kd.R_base ho14) hb)
          have n1_ := Aside0.mk (Kd.R_below (by (with_reducible repeat (first | apply Kd.R_alloc | apply Kd.R_drewN | apply Kd.R_drew)); exact HO_6.out) hb)
          have n2_ := Aside0.mk (Kd.R_lower (Kd.R_new' ho14 (Kd.R_lt (by (with_reducible repeat (first | apply Kd.R_alloc | apply Kd.R_drewN | apply Kd.R_drew)); exact HO_5.out))) (below_size (by repeat (first | (with_reducible first | exact HB.out | apply below_alloc | apply pw_below_drewN | apply below_drew1 | refine below_set ?_ GE102.out) | exact HB.out))))
          have n3_ := Aside0.mk (blk_below (g := gb102) (o := .cells #[.int .i64 ((rd_T137 l0 x13_1).f0), .int .u64 ((rd_T137 l0 x13_1).f1)] 137 (0, 0)) (by (with_reducible repeat (first | refine blk_drewN ?_ _ | refine blk_drew ?_ | refine blk_alloc ?_ _)); exact BK102.out) hb)
          have n4_ := Aside0.mk (below_step (by repeat (first | (with_reducible first | exact HB.out | apply below_alloc | apply pw_below_drewN | apply below_drew1 | refine below_set ?_ GE102.out) | exact HB.out)) hb)
          clear HO_5
          clear HO_6
          clear BK102
          clear HB
          have HO_5 := n0_
          have HO_6 := n1_
          have HO105 := n2_
          have BK102 := n3_
          have HB := n4_
          clear n0_ n1_ n2_ n3_ n4_
          clear hb ho14
          obtain ⟨Ao16, co16, eo16⟩ := Kd.R_slice HO105.out
          (first | subst eo16 | (injection eo16 with f1_ f2_ f3_; have f4_ := f1_.symm; have f5_ := f3_.symm; clear f1_ f2_ f3_; subst f4_; subst f5_))
          refine hK.out _ _ ⟨(blk_cell BK102.out 0).trans rfl, (blk_cell BK102.out 1).trans rfl⟩ (fun hHeld => ?_)
          clear hK K
          refine norm_ (a' := ?_) ?_ ?_
          rotate_left
          ·show Act.put _ (some 20) _ = _
           simp only [Act.put, List.setIfInBounds_toArray, List.set_cons_zero, List.set_cons_succ, i64_w, i32_w]
           rfl
          refine two_ (i := 4) (j := 8) (Ni := some 21) (Nj := some 25) #[true, true, true, true, true, true, true, true, false, false, false, false] #[true, true, true, true, false, true, true, true, true, false, false, false] rfl rfl rfl rfl (two_of HT_.out (by kernel_rfl)) (by decide) (by decide) (fun K hK => ?_) (fun K hK => ?_)
          ·skip
           refine Kd.R_append_rows_step (Kd.int .i64) (w0 := w) w.heap.size (by rfl) (.tmp 17) (.tmp 20) 47 3 (.int .i64 0) 8 rfl Try.underlying47 info3 rfl (by decide) (by omega) (.slice Ao9 x5_1.length co9) x5_1 y103 _ _ _ (fun k_ => some k_ ≠ (.slice Ao16 y103.length co16 : Value).ownBlock) (fun _ => False) rfl rfl ?aO ?aR (fun _ _ h => h) (fun _ h => h.elim) ?aF ?aB ?aS ?aL ?_
           (case aR => repeat (first | exact (Kd.R_reads' HO105.out).2.2 | (with_reducible refine Kd.C_alloc ?_ _) | (with_reducible refine Kd.C_drewN ?_ _) | (with_reducible refine Kd.C_drew ?_)))
           (case aB => exact (by repeat (first | (with_reducible first | exact HB.out | apply below_alloc | apply pw_below_drewN | apply below_drew1 | refine below_set ?_ GE102.out) | exact HB.out)))
           (case aF => exact (fun k_ hk => Kd.fresh' (Kd.R_lt (by (with_reducible repeat (first | apply Kd.R_alloc | apply Kd.R_drewN | apply Kd.R_drew)); exact HO105.out)) k_ hk))
           (case aO => exact (by (with_reducible repeat (first | apply Kd.R_alloc | apply Kd.R_drewN | apply Kd.R_drew)); exact Kd.R_mono HO_5.out (fun _ hk => hk.2)))
           (case aS => exact (below_size (by repeat (first | (with_reducible first | exact HB.out | apply below_alloc | apply pw_below_drewN | apply below_drew1 | refine below_set ?_ GE102.out) | exact HB.out))))
           (case aL => have := LMc5.out; omega)
           intro v107 w15 ho hb hg hat
           rw [← Ny106.out] at ho
           have n0_ := Aside0.mk (Kd.R_over' (by (with_reducible repeat (first | apply Kd.R_alloc | apply Kd.R_drewN | apply Kd.R_drew)); exact HO_6.out) (Kd.R_typed (by (with_reducible repeat (first | apply Kd.R_alloc | apply Kd.R_drewN | apply Kd.R_drew)); exact HO_5.out)) (by decide) hg)
           have n1_ := Aside0.mk (blk_grown (g := gb102) (o := .cells #[.int .i64 ((rd_T137 l0 x13_1).f0), .int .u64 ((rd_T137 l0 x13_1).f1)] 137 (0, 0)) (by (with_reducible repeat (first | refine blk_drewN ?_ _ | refine blk_drew ?_ | refine blk_alloc ?_ _)); exact BK102.out) hg (Kd.R_ne HO_5.out BK102.out (by decide)))
           have n2_ := Aside0.mk (Kd.R_after (ok := (fun _ => True)) (by (with_reducible repeat (first | apply Kd.R_alloc | apply Kd.R_drewN | apply Kd.R_drew)); exact HO105.out) hg hat)
           have n3_ := Aside0.mk (hb)
           have n4_ := Aside0.mk (ho)
           clear HO_6
           clear BK102
           clear HO105
           clear HB
           clear HO_5
           have HO_6 := n0_
           have BK102 := n1_
           have HO105 := n2_
           have HB := n3_
           have HO108 := n4_
           clear n0_ n1_ n2_ n3_ n4_
           clear ho hb hg hat
           refine hK.out _ _ ⟨(blk_cell BK102.out 0).trans rfl, (blk_cell BK102.out 1).trans rfl⟩ (fun hHeld => ?_)
           clear hK K
           refine norm_ (a' := ?_) ?_ ?_
           rotate_left
           ·show Act.put _ (some 21) _ = _
            simp only [Act.put, List.setIfInBounds_toArray, List.set_cons_zero, List.set_cons_succ, i64_w, i32_w]
            rfl
           refine one_ (i := 8) (N := some 25) #[true, true, true, true, true, true, true, true, true, false, false, false] rfl rfl (one_of HT_.out (by kernel_rfl)) (by decide) (fun K hK => ?_)
           refine Kd.R_lit_step (Kd.int .u64) _ 22 ?hg (N := 25) ?hd (xs := ([(rd_T137 l0 x13_1).f1] : List Int)) (inner := [.int .u64 ((rd_T137 l0 x13_1).f1)]) (ok := fun _ => True) (okp := fun _ => True) ?hr ?hp (fun _ hk => hk) trivial (Below.refl _ _) (Nat.le_refl _) (by simp) ?_; (case hd => rfl); (case hg => rfl); (case hr => first | (go_simp; done) | (go_simp; rfl)); (case hp => exact (Reps.one (show Kd.M (Kd.int .u64) _ _ _ ((rd_T137 l0 x13_1).f1) [.int .u64 ((rd_T137 l0 x13_1).f1)] from rfl) (Reps.none _ _)))
           intro v110 w17 ho18 hb hg_ hnew_
           clear hg_ hnew_
           (first | rw [← Ny109.out] at ho18 | (simp only [Int.reduceToNat] at ho18; rw [← Ny109.out] at ho18))
           have n0_ := Aside0.mk (Kd.R_elder' (by (with_reducible repeat (first | apply Kd.R_alloc | apply Kd.R_drewN | apply Kd.R_drew)); exact HO_6.out) (Kd.R_base ho18) hb)
           have n1_ := Aside0.mk (Kd.R_below (by (with_reducible repeat (first | apply Kd.R_alloc | apply Kd.R_drewN | apply Kd.R_drew)); exact HO105.out) hb)
           have n2_ := Aside0.mk (Kd.R_below (by (with_reducible repeat (first | apply Kd.R_alloc | apply Kd.R_drewN | apply Kd.R_drew)); exact HO108.out) hb)
           have n3_ := Aside0.mk (Kd.R_lower (Kd.R_new' ho18 (Kd.R_lt (by (with_reducible repeat (first | apply Kd.R_alloc | apply Kd.R_drewN | apply Kd.R_drew)); exact HO_6.out))) (below_size (by repeat (first | (with_reducible first | exact HB.out | apply below_alloc | apply pw_below_drewN | apply below_drew1 | refine below_set ?_ GE102.out) | exact HB.out))))
           have n4_ := Aside0.mk (blk_below (g := gb102) (o := .cells #[.int .i64 ((rd_T137 l0 x13_1).f0), .int .u64 ((rd_T137 l0 x13_1).f1)] 137 (0, 0)) (by (with_reducible repeat (first | refine blk_drewN ?_ _ | refine blk_drew ?_ | refine blk_alloc ?_ _)); exact BK102.out) hb)
           have n5_ := Aside0.mk (below_step (by repeat (first | (with_reducible first | exact HB.out | apply below_alloc | apply pw_below_drewN | apply below_drew1 | refine below_set ?_ GE102.out) | exact HB.out)) hb)
           clear HO_6
           clear HO105
           clear HO108
           clear BK102
           clear HB
           have HO_6 := n0_
           have HO105 := n1_
           have HO108 := n2_
           have HO111 := n3_
           have BK102 := n4_
           have HB := n5_
           clear n0_ n1_ n2_ n3_ n4_ n5_
           clear hb ho18
           refine hK.out _ _ ⟨(blk_cell BK102.out 0).trans rfl, (blk_cell BK102.out 1).trans rfl⟩ (fun hHeld => ?_)
           clear hK K
           refine norm_ (a' := ?_) ?_ ?_
           rotate_left
           ·show Act.put _ (some 25) _ = _
            simp only [Act.put, List.setIfInBounds_toArray, List.set_cons_zero, List.set_cons_succ, i64_w, i32_w]
            rfl
           exact norm_ (by simp only [putAll, Act.put, List.setIfInBounds_toArray, List.set_cons_zero, List.set_cons_succ]) (hCont (.slice Ao16 y103.length co16, v107, v110) _ ⟨hHeld, (by (with_reducible repeat (first | apply Kd.R_alloc | apply Kd.R_drewN | apply Kd.R_drew)); exact Kd.R_mono HO105.out (fun _ hk => hk.2)), (by (with_reducible repeat (first | apply Kd.R_alloc | apply Kd.R_drewN | apply Kd.R_drew)); exact HO108.out), (by (with_reducible repeat (first | apply Kd.R_alloc | apply Kd.R_drewN | apply Kd.R_drew)); exact Kd.R_mono HO111.out (fun _ hk => hk.2)), (by (with_reducible repeat (first | apply Kd.R_alloc | apply Kd.R_drewN | apply Kd.R_drew)); exact Kd.R_mono HO_6.out (fun _ hk => hk.2)), (by (with_reducible repeat (first | refine blk_drewN ?_ _ | refine blk_drew ?_ | refine blk_alloc ?_ _)); exact BK102.out), (by repeat (first | (with_reducible first | exact HB.out | apply below_alloc | apply pw_below_drewN | apply below_drew1 | refine below_set ?_ GE102.out) | exact HB.out))⟩)
          ·skip
           refine Kd.R_lit_step (Kd.int .u64) _ 22 ?hg (N := 25) ?hd (xs := ([(rd_T137 l0 x13_1).f1] : List Int)) (inner := [.int .u64 ((rd_T137 l0 x13_1).f1)]) (ok := fun _ => True) (okp := fun _ => True) ?hr ?hp (fun _ hk => hk) trivial (Below.refl _ _) (Nat.le_refl _) (by simp) ?_; (case hd => rfl); (case hg => rfl); (case hr => first | (go_simp; done) | (go_simp; rfl)); (case hp => exact (Reps.one (show Kd.M (Kd.int .u64) _ _ _ ((rd_T137 l0 x13_1).f1) [.int .u64 ((rd_T137 l0 x13_1).f1)] from rfl) (Reps.none _ _)))
           intro v110 w15 ho16 hb hg_ hnew_
           clear hg_ hnew_
           (first | rw [← Ny109.out] at ho16 | (simp only [Int.reduceToNat] at ho16; rw [← Ny109.out] at ho16))
           have n0_ := Aside0.mk (Kd.R_below (by (with_reducible repeat (first | apply Kd.R_alloc | apply Kd.R_drewN | apply Kd.R_drew)); exact HO_5.out) hb)
           have n1_ := Aside0.mk (Kd.R_elder' (by (with_reducible repeat (first | apply Kd.R_alloc | apply Kd.R_drewN | apply Kd.R_drew)); exact HO_6.out) (Kd.R_base ho16) hb)
           have n2_ := Aside0.mk (Kd.R_below (by (with_reducible repeat (first | apply Kd.R_alloc | apply Kd.R_drewN | apply Kd.R_drew)); exact HO105.out) hb)
           have n3_ := Aside0.mk (Kd.R_lower (Kd.R_new' ho16 (Kd.R_lt (by (with_reducible repeat (first | apply Kd.R_alloc | apply Kd.R_drewN | apply Kd.R_drew)); exact HO_6.out))) (below_size (by repeat (first | (with_reducible first | exact HB.out | apply below_alloc | apply pw_below_drewN | apply below_drew1 | refine below_set ?_ GE102.out) | exact HB.out))))
           have n4_ := Aside0.mk (blk_below (g := gb102) (o := .cells #[.int .i64 ((rd_T137 l0 x13_1).f0), .int .u64 ((rd_T137 l0 x13_1).f1)] 137 (0, 0)) (by (with_reducible repeat (first | refine blk_drewN ?_ _ | refine blk_drew ?_ | refine blk_alloc ?_ _)); exact BK102.out) hb)
           have n5_ := Aside0.mk (below_step (by repeat (first | (with_reducible first | exact HB.out | apply below_alloc | apply pw_below_drewN | apply below_drew1 | refine below_set ?_ GE102.out) | exact HB.out)) hb)
           clear HO_5
           clear HO_6
           clear HO105
           clear BK102
           clear HB
           have HO_5 := n0_
           have HO_6 := n1_
           have HO105 := n2_
           have HO111 := n3_
           have BK102 := n4_
           have HB := n5_
           clear n0_ n1_ n2_ n3_ n4_ n5_
           clear hb ho16
           obtain ⟨Ao18, co18, eo18⟩ := Kd.R_slice HO105.out
           (first | subst eo18 | (injection eo18 with f1_ f2_ f3_; have f4_ := f1_.symm; have f5_ := f3_.symm; clear f1_ f2_ f3_; subst f4_; subst f5_))
           refine hK.out _ _ ⟨(blk_cell BK102.out 0).trans rfl, (blk_cell BK102.out 1).trans rfl⟩ (fun hHeld => ?_)
           clear hK K
           refine norm_ (a' := ?_) ?_ ?_
           rotate_left
           ·show Act.put _ (some 25) _ = _
            simp only [Act.put, List.setIfInBounds_toArray, List.set_cons_zero, List.set_cons_succ, i64_w, i32_w]
            rfl
           refine one_ (i := 4) (N := some 21) #[true, true, true, true, true, true, true, true, true, false, false, false] rfl rfl (one_of HT_.out (by kernel_rfl)) (by decide) (fun K hK => ?_)
           refine Kd.R_append_rows_step (Kd.int .i64) (w0 := w) w.heap.size (by rfl) (.tmp 17) (.tmp 20) 47 3 (.int .i64 0) 8 rfl Try.underlying47 info3 rfl (by decide) (by omega) (.slice Ao9 x5_1.length co9) x5_1 y103 _ _ _ (fun k_ => some k_ ≠ (.slice Ao18 y103.length co18 : Value).ownBlock) (fun _ => False) rfl rfl ?aO ?aR (fun _ _ h => h) (fun _ h => h.elim) ?aF ?aB ?aS ?aL ?_
           (case aR => repeat (first | exact (Kd.R_reads' HO105.out).2.2 | (with_reducible refine Kd.C_alloc ?_ _) | (with_reducible refine Kd.C_drewN ?_ _) | (with_reducible refine Kd.C_drew ?_)))
           (case aB => exact (by repeat (first | (with_reducible first | exact HB.out | apply below_alloc | apply pw_below_drewN | apply below_drew1 | refine below_set ?_ GE102.out) | exact HB.out)))
           (case aF => exact (fun k_ hk => Kd.fresh' (Kd.R_lt (by (with_reducible repeat (first | apply Kd.R_alloc | apply Kd.R_drewN | apply Kd.R_drew)); exact HO105.out)) k_ hk))
           (case aO => exact (by (with_reducible repeat (first | apply Kd.R_alloc | apply Kd.R_drewN | apply Kd.R_drew)); exact Kd.R_mono HO_5.out (fun _ hk => hk.2)))
           (case aS => exact (below_size (by repeat (first | (with_reducible first | exact HB.out | apply below_alloc | apply pw_below_drewN | apply below_drew1 | refine below_set ?_ GE102.out) | exact HB.out))))
           (case aL => have := LMc5.out; omega)
           intro v107 w17 ho hb hg hat
           rw [← Ny106.out] at ho
           have n0_ := Aside0.mk (Kd.R_over' (by (with_reducible repeat (first | apply Kd.R_alloc | apply Kd.R_drewN | apply Kd.R_drew)); exact HO_6.out) (Kd.R_typed (by (with_reducible repeat (first | apply Kd.R_alloc | apply Kd.R_drewN | apply Kd.R_drew)); exact HO_5.out)) (by decide) hg)
           have n1_ := Aside0.mk (blk_grown (g := gb102) (o := .cells #[.int .i64 ((rd_T137 l0 x13_1).f0), .int .u64 ((rd_T137 l0 x13_1).f1)] 137 (0, 0)) (by (with_reducible repeat (first | refine blk_drewN ?_ _ | refine blk_drew ?_ | refine blk_alloc ?_ _)); exact BK102.out) hg (Kd.R_ne HO_5.out BK102.out (by decide)))
           have n2_ := Aside0.mk (Kd.R_after (ok := (fun _ => True)) (by (with_reducible repeat (first | apply Kd.R_alloc | apply Kd.R_drewN | apply Kd.R_drew)); exact HO105.out) hg hat)
           have n3_ := Aside0.mk (Kd.R_over' (by (with_reducible repeat (first | apply Kd.R_alloc | apply Kd.R_drewN | apply Kd.R_drew)); exact HO111.out) (Kd.R_typed (by (with_reducible repeat (first | apply Kd.R_alloc | apply Kd.R_drewN | apply Kd.R_drew)); exact HO_5.out)) (by decide) hg)
           have n4_ := Aside0.mk (hb)
           have n5_ := Aside0.mk (ho)
           clear HO_6
           clear BK102
           clear HO105
           clear HO111
           clear HB
           clear HO_5
           have HO_6 := n0_
           have BK102 := n1_
           have HO105 := n2_
           have HO111 := n3_
           have HB := n4_
           have HO108 := n5_
           clear n0_ n1_ n2_ n3_ n4_ n5_
           clear ho hb hg hat
           refine hK.out _ _ ⟨(blk_cell BK102.out 0).trans rfl, (blk_cell BK102.out 1).trans rfl⟩ (fun hHeld => ?_)
           clear hK K
           refine norm_ (a' := ?_) ?_ ?_
           rotate_left
           ·show Act.put _ (some 21) _ = _
            simp only [Act.put, List.setIfInBounds_toArray, List.set_cons_zero, List.set_cons_succ, i64_w, i32_w]
            rfl
           exact norm_ (by simp only [putAll, Act.put, List.setIfInBounds_toArray, List.set_cons_zero, List.set_cons_succ]) (hCont (.slice Ao18 y103.length co18, v107, v110) _ ⟨hHeld, (by (with_reducible repeat (first | apply Kd.R_alloc | apply Kd.R_drewN | apply Kd.R_drew)); exact Kd.R_mono HO105.out (fun _ hk => hk.2)), (by (with_reducible repeat (first | apply Kd.R_alloc | apply Kd.R_drewN | apply Kd.R_drew)); exact HO108.out), (by (with_reducible repeat (first | apply Kd.R_alloc | apply Kd.R_drewN | apply Kd.R_drew)); exact Kd.R_mono HO111.out (fun _ hk => hk.2)), (by (with_reducible repeat (first | apply Kd.R_alloc | apply Kd.R_drewN | apply Kd.R_drew)); exact Kd.R_mono HO_6.out (fun _ hk => hk.2)), (by (with_reducible repeat (first | refine blk_drewN ?_ _ | refine blk_drew ?_ | refine blk_alloc ?_ _)); exact BK102.out), (by repeat (first | (with_reducible first | exact HB.out | apply below_alloc | apply pw_below_drewN | apply below_drew1 | refine below_set ?_ GE102.out) | exact HB.out))⟩)
         ·skip
          refine Kd.R_lit_step (Kd.int .u64) _ 22 ?hg (N := 25) ?hd (xs := ([(rd_T137 l0 x13_1).f1] : List Int)) (inner := [.int .u64 ((rd_T137 l0 x13_1).f1)]) (ok := fun _ => True) (okp := fun _ => True) ?hr ?hp (fun _ hk => hk) trivial (Below.refl _ _) (Nat.le_refl _) (by simp) ?_; (case hd => rfl); (case hg => rfl); (case hr => first | (go_simp; done) | (go_simp; rfl)); (case hp => exact (Reps.one (show Kd.M (Kd.int .u64) _ _ _ ((rd_T137 l0 x13_1).f1) [.int .u64 ((rd_T137 l0 x13_1).f1)] from rfl) (Reps.none _ _)))
          intro v110 w13 ho14 hb hg_ hnew_
          clear hg_ hnew_
          (first | rw [← Ny109.out] at ho14 | (simp only [Int.reduceToNat] at ho14; rw [← Ny109.out] at ho14))
          have n0_ := Aside0.mk (Kd.R_below (by (with_reducible repeat (first | apply Kd.R_alloc | apply Kd.R_drewN | apply Kd.R_drew)); exact HO_5.out) hb)
          have n1_ := Aside0.mk (Kd.R_elder' (by (with_reducible repeat (first | apply Kd.R_alloc | apply Kd.R_drewN | apply Kd.R_drew)); exact HO_6.out) (Kd.R_base ho14) hb)
          have n2_ := Aside0.mk (Kd.R_lower (Kd.R_new' ho14 (Kd.R_lt (by (with_reducible repeat (first | apply Kd.R_alloc | apply Kd.R_drewN | apply Kd.R_drew)); exact HO_6.out))) (below_size (by repeat (first | (with_reducible first | exact HB.out | apply below_alloc | apply pw_below_drewN | apply below_drew1 | refine below_set ?_ GE102.out) | exact HB.out))))
          have n3_ := Aside0.mk (blk_below (g := gb102) (o := .cells #[.int .i64 ((rd_T137 l0 x13_1).f0), .int .u64 ((rd_T137 l0 x13_1).f1)] 137 (0, 0)) (by (with_reducible repeat (first | refine blk_drewN ?_ _ | refine blk_drew ?_ | refine blk_alloc ?_ _)); exact BK102.out) hb)
          have n4_ := Aside0.mk (below_step (by repeat (first | (with_reducible first | exact HB.out | apply below_alloc | apply pw_below_drewN | apply below_drew1 | refine below_set ?_ GE102.out) | exact HB.out)) hb)
          clear HO_5
          clear HO_6
          clear BK102
          clear HB
          have HO_5 := n0_
          have HO_6 := n1_
          have HO111 := n2_
          have BK102 := n3_
          have HB := n4_
          clear n0_ n1_ n2_ n3_ n4_
          clear hb ho14
          refine hK.out _ _ ⟨(blk_cell BK102.out 0).trans rfl, (blk_cell BK102.out 1).trans rfl⟩ (fun hHeld => ?_)
          clear hK K
          refine norm_ (a' := ?_) ?_ ?_
          rotate_left
          ·show Act.put _ (some 25) _ = _
           simp only [Act.put, List.setIfInBounds_toArray, List.set_cons_zero, List.set_cons_succ, i64_w, i32_w]
           rfl
          refine one_ (i := 3) (N := some 20) #[true, true, true, true, false, true, true, true, true, false, false, false] rfl rfl (one_of HT_.out (by kernel_rfl)) (by decide) (fun K hK => ?_)
          refine Kd.R_lit_step (Kd.int .i64) _ 3 ?hg (N := 20) ?hd (xs := ([(rd_T137 l0 x13_1).f0] : List Int)) (inner := [.int .i64 ((rd_T137 l0 x13_1).f0)]) (ok := fun _ => True) (okp := fun _ => True) ?hr ?hp (fun _ hk => hk) trivial (Below.refl _ _) (Nat.le_refl _) (by simp) ?_; (case hd => rfl); (case hg => rfl); (case hr => first | (go_simp; done) | (go_simp; rfl)); (case hp => exact (Reps.one (show Kd.M (Kd.int .i64) _ _ _ ((rd_T137 l0 x13_1).f0) [.int .i64 ((rd_T137 l0 x13_1).f0)] from rfl) (Reps.none _ _)))
          intro v104 w15 ho16 hb hg_ hnew_
          clear hg_ hnew_
          (first | rw [← Ny103.out] at ho16 | (simp only [Int.reduceToNat] at ho16; rw [← Ny103.out] at ho16))
          have n0_ := Aside0.mk (Kd.R_elder' (by (with_reducible repeat (first | apply Kd.R_alloc | apply Kd.R_drewN | apply Kd.R_drew)); exact HO_5.out) (Kd.R_base ho16) hb)
          have n1_ := Aside0.mk (Kd.R_below (by (with_reducible repeat (first | apply Kd.R_alloc | apply Kd.R_drewN | apply Kd.R_drew)); exact HO_6.out) hb)
          have n2_ := Aside0.mk (Kd.R_below (by (with_reducible repeat (first | apply Kd.R_alloc | apply Kd.R_drewN | apply Kd.R_drew)); exact HO111.out) hb)
          have n3_ := Aside0.mk (Kd.R_lower (Kd.R_new' ho16 (Kd.R_lt (by (with_reducible repeat (first | apply Kd.R_alloc | apply Kd.R_drewN | apply Kd.R_drew)); exact HO_5.out))) (below_size (by repeat (first | (with_reducible first | exact HB.out | apply below_alloc | apply pw_below_drewN | apply below_drew1 | refine below_set ?_ GE102.out) | exact HB.out))))
          have n4_ := Aside0.mk (blk_below (g := gb102) (o := .cells #[.int .i64 ((rd_T137 l0 x13_1).f0), .int .u64 ((rd_T137 l0 x13_1).f1)] 137 (0, 0)) (by (with_reducible repeat (first | refine blk_drewN ?_ _ | refine blk_drew ?_ | refine blk_alloc ?_ _)); exact BK102.out) hb)
          have n5_ := Aside0.mk (below_step (by repeat (first | (with_reducible first | exact HB.out | apply below_alloc | apply pw_below_drewN | apply below_drew1 | refine below_set ?_ GE102.out) | exact HB.out)) hb)
          clear HO_5
          clear HO_6
          clear HO111
          clear BK102
          clear HB
          have HO_5 := n0_
          have HO_6 := n1_
          have HO111 := n2_
          have HO105 := n3_
          have BK102 := n4_
          have HB := n5_
          clear n0_ n1_ n2_ n3_ n4_ n5_
          clear hb ho16
          obtain ⟨Ao18, co18, eo18⟩ := Kd.R_slice HO105.out
          (first | subst eo18 | (injection eo18 with f1_ f2_ f3_; have f4_ := f1_.symm; have f5_ := f3_.symm; clear f1_ f2_ f3_; subst f4_; subst f5_))
          refine hK.out _ _ ⟨(blk_cell BK102.out 0).trans rfl, (blk_cell BK102.out 1).trans rfl⟩ (fun hHeld => ?_)
          clear hK K
          refine norm_ (a' := ?_) ?_ ?_
          rotate_left
          ·show Act.put _ (some 20) _ = _
           simp only [Act.put, List.setIfInBounds_toArray, List.set_cons_zero, List.set_cons_succ, i64_w, i32_w]
           rfl
          refine one_ (i := 4) (N := some 21) #[true, true, true, true, true, true, true, true, true, false, false, false] rfl rfl (one_of HT_.out (by kernel_rfl)) (by decide) (fun K hK => ?_)
          refine Kd.R_append_rows_step (Kd.int .i64) (w0 := w) w.heap.size (by rfl) (.tmp 17) (.tmp 20) 47 3 (.int .i64 0) 8 rfl Try.underlying47 info3 rfl (by decide) (by omega) (.slice Ao9 x5_1.length co9) x5_1 y103 _ _ _ (fun k_ => some k_ ≠ (.slice Ao18 y103.length co18 : Value).ownBlock) (fun _ => False) rfl rfl ?aO ?aR (fun _ _ h => h) (fun _ h => h.elim) ?aF ?aB ?aS ?aL ?_
          (case aR => repeat (first | exact (Kd.R_reads' HO105.out).2.2 | (with_reducible refine Kd.C_alloc ?_ _) | (with_reducible refine Kd.C_drewN ?_ _) | (with_reducible refine Kd.C_drew ?_)))
          (case aB => exact (by repeat (first | (with_reducible first | exact HB.out | apply below_alloc | apply pw_below_drewN | apply below_drew1 | refine below_set ?_ GE102.out) | exact HB.out)))
          (case aF => exact (fun k_ hk => Kd.fresh' (Kd.R_lt (by (with_reducible repeat (first | apply Kd.R_alloc | apply Kd.R_drewN | apply Kd.R_drew)); exact HO105.out)) k_ hk))
          (case aO => exact (by (with_reducible repeat (first | apply Kd.R_alloc | apply Kd.R_drewN | apply Kd.R_drew)); exact Kd.R_mono HO_5.out (fun _ hk => hk.2)))
          (case aS => exact (below_size (by repeat (first | (with_reducible first | exact HB.out | apply below_alloc | apply pw_below_drewN | apply below_drew1 | refine below_set ?_ GE102.out) | exact HB.out))))
          (case aL => have := LMc5.out; omega)
          intro v107 w17 ho hb hg hat
          rw [← Ny106.out] at ho
          have n0_ := Aside0.mk (Kd.R_over' (by (with_reducible repeat (first | apply Kd.R_alloc | apply Kd.R_drewN | apply Kd.R_drew)); exact HO_6.out) (Kd.R_typed (by (with_reducible repeat (first | apply Kd.R_alloc | apply Kd.R_drewN | apply Kd.R_drew)); exact HO_5.out)) (by decide) hg)
          have n1_ := Aside0.mk (blk_grown (g := gb102) (o := .cells #[.int .i64 ((rd_T137 l0 x13_1).f0), .int .u64 ((rd_T137 l0 x13_1).f1)] 137 (0, 0)) (by (with_reducible repeat (first | refine blk_drewN ?_ _ | refine blk_drew ?_ | refine blk_alloc ?_ _)); exact BK102.out) hg (Kd.R_ne HO_5.out BK102.out (by decide)))
          have n2_ := Aside0.mk (Kd.R_over' (by (with_reducible repeat (first | apply Kd.R_alloc | apply Kd.R_drewN | apply Kd.R_drew)); exact HO111.out) (Kd.R_typed (by (with_reducible repeat (first | apply Kd.R_alloc | apply Kd.R_drewN | apply Kd.R_drew)); exact HO_5.out)) (by decide) hg)
          have n3_ := Aside0.mk (Kd.R_after (ok := (fun _ => True)) (by (with_reducible repeat (first | apply Kd.R_alloc | apply Kd.R_drewN | apply Kd.R_drew)); exact HO105.out) hg hat)
          have n4_ := Aside0.mk (hb)
          have n5_ := Aside0.mk (ho)
          clear HO_6
          clear BK102
          clear HO111
          clear HO105
          clear HB
          clear HO_5
          have HO_6 := n0_
          have BK102 := n1_
          have HO111 := n2_
          have HO105 := n3_
          have HB := n4_
          have HO108 := n5_
          clear n0_ n1_ n2_ n3_ n4_ n5_
          clear ho hb hg hat
          refine hK.out _ _ ⟨(blk_cell BK102.out 0).trans rfl, (blk_cell BK102.out 1).trans rfl⟩ (fun hHeld => ?_)
          clear hK K
          refine norm_ (a' := ?_) ?_ ?_
          rotate_left
          ·show Act.put _ (some 21) _ = _
           simp only [Act.put, List.setIfInBounds_toArray, List.set_cons_zero, List.set_cons_succ, i64_w, i32_w]
           rfl
          exact norm_ (by simp only [putAll, Act.put, List.setIfInBounds_toArray, List.set_cons_zero, List.set_cons_succ]) (hCont (.slice Ao18 y103.length co18, v107, v110) _ ⟨hHeld, (by (with_reducible repeat (first | apply Kd.R_alloc | apply Kd.R_drewN | apply Kd.R_drew)); exact Kd.R_mono HO105.out (fun _ hk => hk.2)), (by (with_reducible repeat (first | apply Kd.R_alloc | apply Kd.R_drewN | apply Kd.R_drew)); exact HO108.out), (by (with_reducible repeat (first | apply Kd.R_alloc | apply Kd.R_drewN | apply Kd.R_drew)); exact Kd.R_mono HO111.out (fun _ hk => hk.2)), (by (with_reducible repeat (first | apply Kd.R_alloc | apply Kd.R_drewN | apply Kd.R_drew)); exact Kd.R_mono HO_6.out (fun _ hk => hk.2)), (by (with_reducible repeat (first | refine blk_drewN ?_ _ | refine blk_drew ?_ | refine blk_alloc ?_ _)); exact BK102.out), (by repeat (first | (with_reducible first | exact HB.out | apply below_alloc | apply pw_below_drewN | apply below_drew1 | refine below_set ?_ GE102.out) | exact HB.out))⟩)
        rintro ⟨v104, v107, v110⟩ w19 ⟨hS_, h0_, h1_, h2_, h3_, h4_, h5_⟩
        have n0_ : Aside0 (Kd.R (Kd.int .i64) 3 w19 w.heap.size (fun k_ => some k_ ≠ (v107 : Value).ownBlock) v104 y103) := ⟨h0_⟩
        have n1_ : Aside0 (Kd.R (Kd.int .i64) 3 w19 w.heap.size (fun k_ => some k_ ≠ (v104 : Value).ownBlock) v107 y106) := ⟨h1_⟩
        have n2_ : Aside0 (Kd.R (Kd.int .u64) 22 w19 w.heap.size (fun k_ => some k_ ≠ (.slice Ao10 x6_1.length co10 : Value).ownBlock) v110 y109) := ⟨h2_⟩
        have n3_ : Aside0 (Kd.R (Kd.int .u64) 22 w19 w.heap.size (fun k_ => some k_ ≠ (v110 : Value).ownBlock) (.slice Ao10 x6_1.length co10) x6_1) := ⟨h3_⟩
        have n4_ : Aside0 (w19.heap[gb102]? = some (.cells #[.int .i64 ((rd_T137 l0 x13_1).f0), .int .u64 ((rd_T137 l0 x13_1).f1)] 137 (0, 0))) := ⟨h4_⟩
        have n5_ : Aside0 (Below w.heap.size w w19) := ⟨h5_⟩
        clear HO_5
        clear HO_6
        clear BK102
        clear HB
        clear h0_ h1_ h2_ h3_ h4_ h5_
        have HO105 := n0_
        have HO108 := n1_
        have HO111 := n2_
        have HO_6 := n3_
        have BK102 := n4_
        have HB := n5_
        clear n0_ n1_ n2_ n3_ n4_ n5_
        have hHeld : w19.cell? ⟨gb102, 0, none⟩ = some (.int .i64 ((rd_T137 l0 x13_1).f0)) ∧ w19.cell? ⟨gb102, 1, none⟩ = some (.int .u64 ((rd_T137 l0 x13_1).f1)) := hS_
        obtain ⟨Ao21, co21, eo21⟩ := Kd.R_slice HO111.out
        (first | subst eo21 | (injection eo21 with f1_ f2_ f3_; have f4_ := f1_.symm; have f5_ := f3_.symm; clear f1_ f2_ f3_; subst f4_; subst f5_))
        refine norm_ (a' := ?_) ?_ ?_
        rotate_left
        ·simp only [putAll, Act.put, List.setIfInBounds_toArray, List.set_cons_zero, List.set_cons_succ]
         rfl
        refine one_ (i := 9) (N := some 26) #[true, true, true, true, true, true, true, true, true, true, false, false] rfl rfl (one_of HT_.out (by kernel_rfl)) (by decide) (fun K hK => ?_)
        refine Kd.R_append_rows_step (Kd.int .u64) (w0 := w) w.heap.size (by rfl) (.tmp 22) (.tmp 25) 29 22 (.int .u64 0) 8 rfl Try.underlying29 info22 rfl (by decide) (by omega) (.slice Ao10 x6_1.length co10) x6_1 y109 _ _ _ (fun k_ => some k_ ≠ (.slice Ao21 y109.length co21 : Value).ownBlock) (fun _ => False) rfl rfl ?aO ?aR (fun _ _ h => h) (fun _ h => h.elim) ?aF ?aB ?aS ?aL ?_
        (case aR => repeat (first | exact (Kd.R_reads' HO111.out).2.2 | (with_reducible refine Kd.C_alloc ?_ _) | (with_reducible refine Kd.C_drewN ?_ _) | (with_reducible refine Kd.C_drew ?_)))
        (case aB => exact (by repeat (first | (with_reducible first | exact HB.out | apply below_alloc | apply pw_below_drewN | apply below_drew1 | refine below_set ?_ GE102.out) | exact HB.out)))
        (case aF => exact (fun k_ hk => Kd.fresh' (Kd.R_lt (by (with_reducible repeat (first | apply Kd.R_alloc | apply Kd.R_drewN | apply Kd.R_drew)); exact HO111.out)) k_ hk))
        (case aO => exact (by (with_reducible repeat (first | apply Kd.R_alloc | apply Kd.R_drewN | apply Kd.R_drew)); exact HO_6.out))
        (case aS => exact (below_size (by repeat (first | (with_reducible first | exact HB.out | apply below_alloc | apply pw_below_drewN | apply below_drew1 | refine below_set ?_ GE102.out) | exact HB.out))))
        (case aL => have := LMc6.out; omega)
        intro v113 w20 ho hb hg hat
        rw [← Ny112.out] at ho
        have n0_ := Aside0.mk (blk_grown (g := gb102) (o := .cells #[.int .i64 ((rd_T137 l0 x13_1).f0), .int .u64 ((rd_T137 l0 x13_1).f1)] 137 (0, 0)) (by (with_reducible repeat (first | refine blk_drewN ?_ _ | refine blk_drew ?_ | refine blk_alloc ?_ _)); exact BK102.out) hg (Kd.R_ne HO_6.out BK102.out (by decide)))
        have n1_ := Aside0.mk (Kd.R_over' (by (with_reducible repeat (first | apply Kd.R_alloc | apply Kd.R_drewN | apply Kd.R_drew)); exact HO105.out) (Kd.R_typed (by (with_reducible repeat (first | apply Kd.R_alloc | apply Kd.R_drewN | apply Kd.R_drew)); exact HO_6.out)) (by decide) hg)
        have n2_ := Aside0.mk (Kd.R_over' (by (with_reducible repeat (first | apply Kd.R_alloc | apply Kd.R_drewN | apply Kd.R_drew)); exact HO108.out) (Kd.R_typed (by (with_reducible repeat (first | apply Kd.R_alloc | apply Kd.R_drewN | apply Kd.R_drew)); exact HO_6.out)) (by decide) hg)
        have n3_ := Aside0.mk (Kd.R_after (ok := (fun _ => True)) (by (with_reducible repeat (first | apply Kd.R_alloc | apply Kd.R_drewN | apply Kd.R_drew)); exact Kd.R_mono HO111.out (fun _ hk => ⟨trivial, hk⟩)) hg hat)
        have n4_ := Aside0.mk (hb)
        have n5_ := Aside0.mk (ho)
        clear BK102
        clear HO105
        clear HO108
        clear HO111
        clear HB
        clear HO_6
        have BK102 := n0_
        have HO105 := n1_
        have HO108 := n2_
        have HO111 := n3_
        have HB := n4_
        have HO114 := n5_
        clear n0_ n1_ n2_ n3_ n4_ n5_
        clear ho hb hg hat
        refine hK.out _ _ ⟨(blk_cell BK102.out 0).trans rfl, (blk_cell BK102.out 1).trans rfl⟩ (fun hHeld => ?_)
        clear hK K
        refine norm_ (a' := ?_) ?_ ?_
        rotate_left
        ·show Act.put _ (some 26) _ = _
         simp only [Act.put, List.setIfInBounds_toArray, List.set_cons_zero, List.set_cons_succ, i64_w, i32_w]
         rfl
        refine pure_ (i := 10) (N := some 5) (v := ?_) (a' := ?_) #[true, true, true, true, true, true, true, true, true, true, true, false] rfl rfl (any_of HT_.out (by kernel_rfl)) (fun _ _ _ h => h) (Or.inl ⟨by rfl, ?_⟩) ?_ ?_
        rotate_left
        ·intro w'
         go_simp
         with_reducible rfl
        rotate_left
        ·simp only [Act.put, List.setIfInBounds_toArray, List.set_cons_zero, List.set_cons_succ, i64_w, i32_w]
         rfl
        refine pure_ (i := 11) (N := some 6) (v := ?_) (a' := ?_) #[true, true, true, true, true, true, true, true, true, true, true, true] rfl rfl (any_of HT_.out (by kernel_rfl)) (fun _ _ _ h => h) (Or.inl ⟨by rfl, ?_⟩) ?_ ?_
        rotate_left
        ·intro w'
         go_simp
         with_reducible rfl
        rotate_left
        ·simp only [Act.put, List.setIfInBounds_toArray, List.set_cons_zero, List.set_cons_succ, i64_w, i32_w]
         rfl
        refine done_ (done_of HT_.out (by kernel_rfl)) ?_
        try go_wp2
        go_roundg k1
        case measure => have := HK1.out; omega
        case rel => exact ⟨(y106), (y112), (wrap64 (x13_1 + 1)), (by first | rfl | (simp; done) | (simp [*]; done)), H', ⟨by have := HK1.out; omega⟩, ⟨by (with_reducible repeat (first | apply Kd.R_alloc | apply Kd.R_drewN | apply Kd.R_drew)); exact Kd.R_mono HO108.out (fun _ hk => trivial)⟩, ⟨by (with_reducible repeat (first | apply Kd.R_alloc | apply Kd.R_drewN | apply Kd.R_drew)); exact Kd.R_mono HO114.out (fun _ hk => trivial)⟩, ⟨by repeat (first | (with_reducible first | exact HB.out | apply below_alloc | apply pw_below_drewN | apply below_drew1 | refine below_set ?_ GE102.out) | exact HB.out)⟩⟩
       ·rw [if_neg c6] at H
        exact absurd H (by simp)
      ·rw [if_neg c5] at H
       exact absurd H (by simp)
     ·rw [if_neg c4] at H
      exact absurd H (by simp)
    ·rw [if_neg c3] at H
     exact absurd H (by simp)
   ·rw [if_neg c2] at H
    have c2b0 : decide (x13_1 < (l0.length : Int)) = false := decide_eq_false c2
    clear c2
    replace H := Option.bind_eq_some_iff.mp H
    obtain ⟨⟨t115, t116⟩, A220, H⟩ := H
    replace H : (if t116 = 0 then (some (t115, x6_1, 0)) else (some (([] : List (S86)), ([] : List Int), t116))) = some (r1, r2, r3) := H
    have A22 := Aside0.mk A220
    clear A220
    by_cases c23 : t116 = 0
    ·rw [if_pos c23] at H
     have c23b0 : (t116 == 0) = true := beq_iff_eq.mpr c23
     have c23b1 : (t116 != 0) = false := bne_eq_false_iff_eq.mpr c23
     clear c23
     simp only [Option.some.injEq, Prod.mk.injEq] at H
     obtain ⟨rfl, rfl, rfl⟩ := H
     obtain ⟨Ao24, co24, eo24⟩ := Kd.R_slice HO_5.out
     subst eo24
     go_wp2_with (first | ((with_reducible refine gate_callee (f := 143) rfl ?_); refine goesL_ (some 30) rfl rfl Try.func143 (by kernel_rfl) rfl #[.slice Ao24 x5_1.length co24] rfl (by (try simp only [List.map_toArray, List.map_cons, List.map_nil]); first | done | rfl | (simp only [List.length_drop, List.length_take]; rfl)) ?_; (with_reducible refine (span_From.calls k1 _ _ x5_1 t115 t116 _ ?side1 ?side2 A22.out).mono ?_); (case side1 => repeat (first | exact (Kd.R_reads' HO_5.out).2.2 | (with_reducible refine Kd.C_alloc ?_ _) | (with_reducible refine Kd.C_drewN ?_ _) | (with_reducible refine Kd.C_drew ?_))); (case side2 => exact (Kd.R_reads' HO_5.out).2.1); rintro e w25 ⟨v117, rfl, ho0, hb⟩; refine ⟨_, rfl, ?_⟩; have n0_ := Aside0.mk (Kd.R_below (by (with_reducible repeat (first | apply Kd.R_alloc | apply Kd.R_drewN | apply Kd.R_drew)); exact HO_5.out) hb); have n1_ := Aside0.mk (Kd.R_below (by (with_reducible repeat (first | apply Kd.R_alloc | apply Kd.R_drewN | apply Kd.R_drew)); exact HO_6.out) hb); have n2_ := Aside0.mk (Kd.R_lower ho0 (below_size (by repeat (first | (with_reducible first | exact HB.out | apply below_alloc | apply pw_below_drewN | apply below_drew1) | exact HB.out)))); have n3_ := Aside0.mk (below_step (by repeat (first | (with_reducible first | exact HB.out | apply below_alloc | apply pw_below_drewN | apply below_drew1) | exact HB.out)) hb); clear HO_5; clear HO_6; clear HB; have HO_5 := n0_; have HO_6 := n1_; have HO118 := n2_; have HB := n3_; clear n0_ n1_ n2_ n3_; (try clear hb); (try clear hb2); (try clear hk); (try clear hi); (try clear ho0); clear A22))
     go_ret3
     exact ⟨_, _, by first | rfl | (simp [errW_none, errW_some] <;> rfl) | (simp [*, errW_none, errW_some] <;> rfl), by (with_reducible repeat (first | apply Kd.R_alloc | apply Kd.R_drewN | apply Kd.R_drew)); exact HO118.out, by (with_reducible repeat (first | apply Kd.R_alloc | apply Kd.R_drewN | apply Kd.R_drew)); exact HO_6.out, by repeat (first | (with_reducible first | exact HB.out | apply below_alloc | apply pw_below_drewN | apply below_drew1) | exact HB.out)⟩
    ·rw [if_neg c23] at H
     have c23b0 : (t116 == 0) = false := beq_eq_false_iff_ne.mpr c23
     have c23b1 : (t116 != 0) = true := bne_iff_ne.mpr c23
     simp only [Option.some.injEq, Prod.mk.injEq] at H
     obtain ⟨rfl, rfl, rfl⟩ := H
     obtain ⟨Ao26, co26, eo26⟩ := Kd.R_slice HO_5.out
     subst eo26
     go_wp2_with (first | ((with_reducible refine gate_callee (f := 143) rfl ?_); refine goesL_ (some 30) rfl rfl Try.func143 (by kernel_rfl) rfl #[.slice Ao26 x5_1.length co26] rfl (by (try simp only [List.map_toArray, List.map_cons, List.map_nil]); first | done | rfl | (simp only [List.length_drop, List.length_take]; rfl)) ?_; (with_reducible refine (span_From.calls k1 _ _ x5_1 t115 t116 _ ?side1 ?side2 A22.out).mono ?_); (case side1 => repeat (first | exact (Kd.R_reads' HO_5.out).2.2 | (with_reducible refine Kd.C_alloc ?_ _) | (with_reducible refine Kd.C_drewN ?_ _) | (with_reducible refine Kd.C_drew ?_))); (case side2 => exact (Kd.R_reads' HO_5.out).2.1); rintro e w27 ⟨v117, rfl, ho0, hb⟩; refine ⟨_, rfl, ?_⟩; have n0_ := Aside0.mk (Kd.R_below (by (with_reducible repeat (first | apply Kd.R_alloc | apply Kd.R_drewN | apply Kd.R_drew)); exact HO_5.out) hb); have n1_ := Aside0.mk (Kd.R_below (by (with_reducible repeat (first | apply Kd.R_alloc | apply Kd.R_drewN | apply Kd.R_drew)); exact HO_6.out) hb); have n2_ := Aside0.mk (Kd.R_lower ho0 (below_size (by repeat (first | (with_reducible first | exact HB.out | apply below_alloc | apply pw_below_drewN | apply below_drew1) | exact HB.out)))); have n3_ := Aside0.mk (below_step (by repeat (first | (with_reducible first | exact HB.out | apply below_alloc | apply pw_below_drewN | apply below_drew1) | exact HB.out)) hb); clear HO_5; clear HO_6; clear HB; have HO_5 := n0_; have HO_6 := n1_; have HO118 := n2_; have HB := n3_; clear n0_ n1_ n2_ n3_; (try clear hb); (try clear hb2); (try clear hk); (try clear hi); (try clear ho0); clear A22))
     go_ret3
     exact ⟨_, _, by first | rfl | (simp [errW_none, errW_some] <;> rfl) | (simp [*, errW_none, errW_some] <;> rfl), by first | exact Kd.R_nil _ _ _ _ _ | exact Kd.N_nil _ _ _ _ _ | exact Kd.V_nil _ _ _ _ _ | exact Kd.Q_nil _ _ _ _ _ | exact Kd.S_nil _ _ _ _ _, by first | exact Kd.R_nil _ _ _ _ _ | exact Kd.N_nil _ _ _ _ _ | exact Kd.V_nil _ _ _ _ _ | exact Kd.Q_nil _ _ _ _ _ | exact Kd.S_nil _ _ _ _ _, by repeat (first | (with_reducible first | exact HB.out | apply below_alloc | apply pw_below_drewN | apply below_drew1) | exact HB.out)⟩
def pairs_Equal_uint64.f (k : Nat) (l0 : List (S137)) (l1 : List (S137)) : Option (Bool) := (pairs_Pair_uint64_144.f k l0 l1).bind fun t101 => (some t101)
set_option maxHeartbeats 8000000 in
set_option maxRecDepth 100000 in
theorem pairs_Equal_uint64.calls (k : Nat) (A0 : Option Addr) (c0 : Nat) (l0 : List (S137)) (A1 : Option Addr) (c1 : Nat) (l1 : List (S137)) (r : Bool) (w : World) (hr0 : Kd.C k137 w A0 l0.length l0) (hc0 : l0.length ≤ c0) (hr1 : Kd.C k137 w A1 l1.length l1) (hc1 : l1.length ≤ c1) (h : pairs_Equal_uint64.f k l0 l1 = some r) :
  Calls Try.prog 118 #[.slice A0 l0.length c0, .slice A1 l1.length c1] w fun e w' => e = .returned (.bool r) ∧ Drawn0 w w' := by
 have HR0 := Aside0.mk hr0
 have HC0 := Aside0.mk hc0
 clear hr0 hc0
 have HR1 := Aside0.mk hr1
 have HC1 := Aside0.mk hc1
 clear hr1 hc1
 have H : ((pairs_Pair_uint64_144.f k l0 l1).bind fun t101 => (some t101)) = some r := h
 clear h
 replace H := Option.bind_eq_some_iff.mp H
 obtain ⟨t101, A30, H⟩ := H
 replace H : (some t101) = some r := H
 have A3 := Aside0.mk A30
 clear A30
 obtain rfl := Option.some.inj H
 go_enter Try.func118, Try.ntmps118
 go_wp2_with (first | ((with_reducible refine gate_callee (f := 144) rfl ?_); refine goesL_ (some 7) rfl rfl Try.func144 (by kernel_rfl) rfl #[.slice A0 l0.length c0, .slice A1 l1.length c1] rfl (by (try simp only [List.map_toArray, List.map_cons, List.map_nil]); first | done | rfl | (simp only [List.length_drop, List.length_take]; rfl)) ?_; (with_reducible refine (pairs_Pair_uint64_144.calls k _ _ l0 _ _ l1 t101 _ ?side1 ?side2 ?side3 ?side4 A3.out).mono ?_); (case side1 => repeat (first | exact HR0.out | (with_reducible refine Kd.C_alloc ?_ _) | (with_reducible refine Kd.C_drewN ?_ _) | (with_reducible refine Kd.C_drew ?_))); (case side2 => exact HC0.out); (case side3 => repeat (first | exact HR1.out | (with_reducible refine Kd.C_alloc ?_ _) | (with_reducible refine Kd.C_drewN ?_ _) | (with_reducible refine Kd.C_drew ?_))); (case side4 => exact HC1.out); rintro e w' ⟨rfl, ⟨nd, rfl⟩⟩; refine ⟨_, rfl, ?_⟩; clear A3))
 go_ret
 exact ⟨by first | rfl | (simp; done) | (simp [*]; done), by repeat (first | exact Drawn0.refl _ | apply Drawn0.step)⟩
end Go.Proofs.Ytfbjjbbhnmoolaa.P
namespace Go.Proofs.Ytfbjjbbhnmoolaa.P
open Go.RowKit Go.Shelf Go.Proofs.YtfbjjbbhnmoolaaW.PrintWords Go.Proofs.YtfbjjbbhnmoolaaW.PrintLast Go.Proofs.YtfbjjbbhnmoolaaW.PrintMore
abbrev Pu := S137
instance : DecidableEq Pu := fun a b => if h : a.f0 = b.f0 ∧ a.f1 = b.f1 then isTrue (by cases a; cases b; simp only at h; rw [h.1, h.2]) else isFalse (by rintro rfl; exact h ⟨rfl, rfl⟩)
theorem rdPu_at {l : List Pu} {i : Nat} (h : i < l.length) : rd_T137 l (i : Int) = l[i] := by unfold rd_T137; simp [List.getD, h]
def wfPus (l : List Pu) : Prop := ∀ s ∈ l, i64 s.f0 ∧ u64 s.f1
def unzipResU (l : List Pu) : List Sp × List Int × Int := if (fromRes (l.map (·.f0))).2 = 0 then ((fromRes (l.map (·.f0))).1, l.map (·.f1), 0) else ([], [], (fromRes (l.map (·.f0))).2)
theorem unzipU_loop (l : List Pu) (hw : wfPus l) (hm : l.length < 4398046511104) : ∀ (d k i : Nat), l.length - i = d → d + 2 * l.length + 1 < k → i ≤ l.length →
    pairs_Unzip_uint64.l0 k ((l.take i).map (·.f0)) ((l.take i).map (·.f1)) l (l.length : Int) (i : Int) = some (unzipResU l) := by
  intro d
  induction d with
  | zero =>
    intro k i hd hk hi
    obtain ⟨k, rfl⟩ : ∃ m, k = m + 1 := ⟨k - 1, by omega⟩
    simp only [pairs_Unzip_uint64.l0]
    rw [if_neg (by omega), List.take_of_length_le (by omega), from_eq _ (by intro x hx; obtain ⟨s, hs, rfl⟩ := List.mem_map.1 hx; exact (hw s hs).1) (by simpa using hm) k (by simp; omega)]
    simp only [Option.bind_some]
    unfold unzipResU
    split <;> rfl
  | succ d ih =>
    intro k i hd hk hi
    obtain ⟨k, rfl⟩ : ∃ m, k = m + 1 := ⟨k - 1, by omega⟩
    have hlt : i < l.length := by omega
    have hl1 : ((l.take i).map (·.f0)).length = i := by simp; omega
    have hl2 : ((l.take i).map (·.f1)).length = i := by simp; omega
    simp only [pairs_Unzip_uint64.l0, Option.bind_some]
    rw [if_pos (by omega), if_pos (by omega), if_pos (by omega), hl1, hl2, rdPu_at hlt, if_pos (by simp; omega), if_pos (by simp; omega), wrap_succ (by omega), ← ih k (i + 1) (by omega) (by omega) (by omega), take_at hlt]
    simp only [List.map_append, List.map_cons, List.map_nil]
theorem unzipU_eq (l : List Pu) (hw : wfPus l) (hm : l.length < 4398046511104) (k : Nat) (hk : 3 * l.length + 1 < k) : pairs_Unzip_uint64.f k l = some (unzipResU l) := by
  unfold pairs_Unzip_uint64.f
  exact unzipU_loop l hw hm l.length k 0 (by omega) (by omega) (by omega)
def zipResU (l : List Sp) (v : List Int) : List Pu × Int := if spCheck l = 0 then (if (plN 0 l).length = v.length then (List.zipWith (fun p x => (⟨p, x⟩ : Pu)) (plN 0 l) v, 0) else ([], 10)) else ([], spCheck l)
theorem zipU_loop (ps v : List Int) (hl : ps.length = v.length) (hm : ps.length < 8796093022208) : ∀ (d k i : Nat), ps.length - i = d → d < k → i ≤ ps.length →
    pairs_Zip_uint64.l0 k v (List.zipWith (fun p x => (⟨p, x⟩ : Pu)) (ps.take i) (v.take i)) ps (ps.length : Int) (i : Int) = some (List.zipWith (fun p x => (⟨p, x⟩ : Pu)) ps v, 0) := by
  intro d
  induction d with
  | zero =>
    intro k i hd hk hi
    obtain ⟨k, rfl⟩ : ∃ m, k = m + 1 := ⟨k - 1, by omega⟩
    simp only [pairs_Zip_uint64.l0]
    rw [if_neg (by omega), List.take_of_length_le (by omega), List.take_of_length_le (by omega)]
  | succ d ih =>
    intro k i hd hk hi
    obtain ⟨k, rfl⟩ : ∃ m, k = m + 1 := ⟨k - 1, by omega⟩
    have hlt : i < ps.length := by omega
    have hlv : i < v.length := by omega
    have hl1 : (List.zipWith (fun p x => (⟨p, x⟩ : Pu)) (ps.take i) (v.take i)).length = i := by simp; omega
    simp only [pairs_Zip_uint64.l0]
    rw [if_pos (by omega), if_pos (by omega), if_pos (by omega), if_pos (by omega), hl1, rd_at hlt, rd_at hlv, if_pos (by omega), wrap_succ (by omega), ← ih k (i + 1) (by omega) (by omega) (by omega), take_at hlt, take_at hlv, List.zipWith_append (by simp; omega)]
    rfl
theorem zipU_eq (l : List Sp) (v : List Int) (hw : wfSps l) (k : Nat) (hk : 4100 < k) : pairs_Zip_uint64.f k l v = some (zipResU l v) := by
  unfold pairs_Zip_uint64.f zipResU
  rw [places_eq l hw k (by omega)]
  simp only [Option.bind_some, placesRes]
  by_cases h : spCheck l = 0
  · have hl := places_len h
    rw [if_pos h, if_pos h]
    simp only [if_true]
    by_cases h1 : (plN 0 l).length = v.length
    · rw [if_pos (by omega), if_pos h1]
      exact zipU_loop (plN 0 l) v h1 (by omega) (plN 0 l).length k 0 (by omega) (by omega) (by omega)
    · rw [if_neg (by omega), if_neg h1]
  · rw [if_neg h, if_neg h]
    simp only
    rw [if_neg h]
theorem equalPu_loop (a b : List Pu) (hl : a.length = b.length) (hm : a.length < 17592186044416) : ∀ (d k i : Nat), a.length - i = d → d < k → i ≤ a.length →
    pairs_Pair_uint64_144.l0 k a b (a.length : Int) (i : Int) = some (decide (a.drop i = b.drop i)) := by
  intro d
  induction d with
  | zero =>
    intro k i hd hk hi
    obtain ⟨k, rfl⟩ : ∃ m, k = m + 1 := ⟨k - 1, by omega⟩
    simp only [pairs_Pair_uint64_144.l0]
    rw [if_neg (by omega), drop_end (by omega), drop_end (by omega)]; rfl
  | succ d ih =>
    intro k i hd hk hi
    obtain ⟨k, rfl⟩ : ∃ m, k = m + 1 := ⟨k - 1, by omega⟩
    have h1 : i < a.length := by omega
    have h2 : i < b.length := by omega
    simp only [pairs_Pair_uint64_144.l0]
    rw [if_pos (by omega), if_pos (by omega), if_pos (by omega), if_pos (by omega), rdPu_at h1, rdPu_at h2, drop_at h1, drop_at h2]
    generalize a[i] = x
    generalize b[i] = y
    by_cases he : x = y
    · subst he
      rw [if_neg (by simp), wrap_succ (by omega), ih k (i + 1) (by omega) (by omega) (by omega)]
      congr 1; rw [decide_eq_decide, List.cons_eq_cons]; exact ⟨fun h => ⟨rfl, h⟩, fun h => h.2⟩
    · rw [if_pos, decide_eq_false (fun h => he (List.cons_eq_cons.1 h).1)]
      obtain ⟨x0, x1⟩ := x
      obtain ⟨y0, y1⟩ := y
      simp only [Bool.or_eq_true, Bool.not_eq_true', beq_eq_false_iff_ne, ne_eq]
      by_cases h0 : x0 = y0
      · right; intro h1; subst h0; subst h1; exact he rfl
      · exact Or.inl h0
theorem equalPu_eq (a b : List Pu) (hm : a.length < 17592186044416) (k : Nat) (hk : a.length < k) : pairs_Equal_uint64.f k a b = some (decide (a = b)) := by
  unfold pairs_Equal_uint64.f pairs_Pair_uint64_144.f
  by_cases h : a.length = b.length
  · rw [if_pos (by omega)]
    have := equalPu_loop a b h hm a.length k 0 (by omega) hk (by omega)
    simp only [List.drop_zero] at this
    rw [show (0 : Int) = ((0 : Nat) : Int) from rfl, this]; rfl
  · rw [if_neg (by omega)]
    rw [decide_eq_false (fun e => h (by rw [e]))]; rfl
end Go.Proofs.Ytfbjjbbhnmoolaa.P
namespace Go.Proofs.Ytfbjjbbhnmoolaa.P
open Go.RowKit Go.Shelf Go.Proofs.YtfbjjbbhnmoolaaW.PrintWords Go.Proofs.YtfbjjbbhnmoolaaW.PrintLast Go.Proofs.YtfbjjbbhnmoolaaW.PrintMore
def PredN_uint64 (g : Nat) (cap : Array Value) (p : Int → Bool) (w : World) : Prop :=
  ∀ (W : World) (x : Int), Below w.heap.size w W → Calls Try.prog g (#[.int .u64 x] ++ cap) W fun e w' => e = .returned (.bool (p x)) ∧ Below W.heap.size W w'
set_option maxHeartbeats 2000000 in
theorem indexFunc_num_uint64 (g : Nat) (cap : Array Value) (p : Int → Bool) (A : Option Addr) (c : Nat) (l : List Int) (w : World)
    (hr : Kd.C (Kd.int .u64) w A l.length l) (hc : l.length ≤ c) (hm : l.length ≤ 9223372036854775807) (hp : PredN_uint64 g cap p w) (eg : ∀ args w, (callFunc g args).run Try.prog w = .ok (.enter g args) w) :
    Calls Try.prog 156 #[.slice A l.length c, .func (.func g) #[] cap] w fun e w' => e = .returned (.int .i64 (idxP p l)) ∧ Below w.heap.size w w' := by
  have HR := Aside0.mk hr
  have HP := Aside0.mk hp
  clear hr hp
  go_enter Try.func156, Try.ntmps156
  go_wp2
  go_loopg [5, 8] l.length (fun gg _ s8 wr => ∃ kk : Nat, kk ≤ l.length ∧ l.length - kk ≤ gg ∧ s8 = .int .i64 kk ∧ Aside0 (Below w.heap.size w wr) ∧ Aside0 (∀ j (hj : j < kk) (hj2 : j < l.length), p l[j] = false))
  case atStart => exact ⟨0, Nat.zero_le _, by omega, rfl, ⟨Below.refl _ w⟩, ⟨fun j hj => absurd hj (Nat.not_lt_zero _)⟩⟩
  case round =>
    obtain ⟨kk, hkk, hg, rfl, HB, HA⟩ := hrel
    by_cases hlt : kk < l.length
    · have hlti : (kk : Int) < (l.length : Int) := by omega
      obtain ⟨ad, e1, hx0⟩ := Kd.at_int HR.out kk (by omega) (by omega)
      cases e1
      replace hx0 := (HB.out.cell (World.block_lt_of_cell? w _ hx0)).trans hx0
      have hrd : rd l (kk : Int) = l[kk] := by unfold rd; simp [List.getD, hlt]
      rw [hrd, Int.toNat_natCast] at hx0
      have hcall := HP.out wr l[kk] HB.out
      generalize hy : l[kk] = y at hx0 hcall
      have HY := Aside0.mk hy
      clear hy hrd
      cases hq : p y with
      | true =>
        rw [hq] at hcall
        have HQ := Aside0.mk hq
        clear hq
        have HC := Aside0.mk hcall
        clear hcall
        go_wp2_with (go_at_fn g; refine HC.out.mono ?_; rintro e w' ⟨rfl, hb'⟩)
        go_ret
        refine ⟨?_, HB.out.trans (hb'.mono HB.out.size)⟩
        rw [idxP_hit p l kk hlt (by rw [HY.out]; exact HQ.out) (fun j hj => HA.out j hj (by omega))]; rfl
      | false =>
        rw [hq] at hcall
        have HQ := Aside0.mk hq
        clear hq
        have HC := Aside0.mk hcall
        clear hcall
        go_wp2_with (go_at_fn g; refine HC.out.mono ?_; rintro e w' ⟨rfl, hb'⟩)
        go_roundg (l.length - (kk + 1))
        case measure => omega
        case rel =>
          refine ⟨kk + 1, by omega, by omega, by go_num, ⟨HB.out.trans (hb'.mono HB.out.size)⟩, ⟨fun j hj hj2 => ?_⟩⟩
          by_cases e : j = kk
          · subst e
            rw [HY.out]; exact HQ.out
          · exact HA.out j (by omega) hj2
    · have hlti : ¬ (kk : Int) < (l.length : Int) := by omega
      have hk : kk = l.length := by omega
      go_wp2
      go_ret
      refine ⟨?_, HB.out⟩
      rw [idxP_miss p l (fun j hj => HA.out j (by omega) hj)]; rfl
theorem idxP_any_uint64 (p : Int → Bool) (l : List Int) : decide (idxP p l ≥ 0) = l.any p := by
  rcases find_idx p l with ⟨h1, h2⟩ | ⟨i, h, h1, h2⟩
  · rw [h1, Bool.eq_iff_iff, decide_eq_true_iff]
    constructor
    · intro h; omega
    · intro h
      obtain ⟨x, hx, hp⟩ := List.any_eq_true.1 h
      rw [List.find?_eq_none] at h2
      exact absurd hp (h2 x hx)
  · rw [h1, Bool.eq_iff_iff, decide_eq_true_iff]
    constructor
    · intro _; exact List.any_eq_true.2 ⟨_, List.getElem_mem h, by have := List.find?_some h2; exact this⟩
    · intro _; omega
set_option maxHeartbeats 2000000 in
theorem containsFunc_num_uint64 (g : Nat) (cap : Array Value) (p : Int → Bool) (A : Option Addr) (c : Nat) (l : List Int) (w : World)
    (hr : Kd.C (Kd.int .u64) w A l.length l) (hc : l.length ≤ c) (hm : l.length ≤ 9223372036854775807) (hp : PredN_uint64 g cap p w) (eg : ∀ args w, (callFunc g args).run Try.prog w = .ok (.enter g args) w) :
    Calls Try.prog 146 #[.slice A l.length c, .func (.func g) #[] cap] w fun e w' => e = .returned (.bool (l.any p)) ∧ Below w.heap.size w w' := by
  have H := Aside0.mk (indexFunc_num_uint64 g cap p A c l w hr hc hm hp eg)
  have HE := Aside0.mk (idxP_any_uint64 p l)
  clear hr hp
  generalize idxP p l = ix at H HE
  go_enter Try.func146, Try.ntmps146
  go_wp2_with (go_at_call 156; refine H.out.mono ?_; rintro e w' ⟨rfl, hb'⟩)
  go_ret
  exact ⟨by rw [← HE.out]; rfl, hb'⟩
end Go.Proofs.Ytfbjjbbhnmoolaa.P
namespace Go.Proofs.Ytfbjjbbhnmoolaa.P
open Go.RowKit Go.Shelf Go.Proofs.YtfbjjbbhnmoolaaW.PrintWords Go.Proofs.YtfbjjbbhnmoolaaW.PrintLast Go.Proofs.YtfbjjbbhnmoolaaW.PrintMore
abbrev kPu := k137
def u64s (l : List Int) : Prop := ∀ x ∈ l, u64 x
instance (l : List Int) : Decidable (u64s l) := by unfold u64s; exact inferInstance
def rightF (v : Int) : Bool := decide (v < 9218868437227405312)
theorem thresh_c (v : Int) (w : World) : Calls Try.prog 66 #[.int .u64 v] w fun e w' => e = .returned (.bool (rightF v)) ∧ Below w.heap.size w w' := (hist_Threshold.calls v _ w rfl).mono fun e w1 h => ⟨h.1, h.2.below⟩
theorem right_c (v : Int) (w : World) : Calls Try.prog 82 #[.int .u64 v] w fun e w' => e = .returned (.bool (rightF v)) ∧ Below w.heap.size w w' := by
  have HT := thresh_c v
  generalize rightF v = b at *
  go_enter Try.func82, Try.ntmps82
  go_wp2_with (go_at_call 66; (with_reducible refine (HT _).mono ?_); rintro e w1 ⟨rfl, hb⟩)
  go_ret
  exact ⟨rfl, hb⟩
theorem wrong_c (v : Int) (w : World) : Calls Try.prog 124 #[.int .u64 v] w fun e w' => e = .returned (.bool (!rightF v)) ∧ Below w.heap.size w w' := by
  have HT := right_c v
  generalize rightF v = b at *
  go_enter Try.func124, Try.ntmps124
  go_wp2_with (go_at_call 82; (with_reducible refine (HT _).mono ?_); rintro e w1 ⟨rfl, hb⟩)
  go_ret
  exact ⟨rfl, hb⟩
def sideF (l : List Sp) (c : List Int) : List Pu × Int :=
  if spCheck l = 0 then (if cntN l = c.length then (if c.any (fun v => !rightF v) = true then ([], 22) else (List.zipWith (fun p x => (⟨p, x⟩ : Pu)) (plN 0 l) c, 0)) else ([], 23)) else ([], spCheck l)
theorem spCheck_c (l : List Sp) (hw : wfSps l) (w : World) (v : Value) (hv : SI kSp w v l) : Calls Try.prog 104 #[v] w fun e w' => e = .returned (.int .i64 (spCheck l)) ∧ Below w.heap.size w w' := by
  obtain ⟨A, c, rfl, hc, hr⟩ := hv
  exact span_Check.calls 2049 A c l _ w hr hc (check_eq l hw 2049 (by omega))
theorem spCount_c (l : List Sp) (hw : wfSps l) (h0 : spCheck l = 0) (w : World) (v : Value) (hv : SI kSp w v l) : Calls Try.prog 130 #[v] w fun e w' => e = .returned (.int .i64 (cntN l)) ∧ Below w.heap.size w w' := by
  obtain ⟨A, c, rfl, hc, hr⟩ := hv
  exact span_Count.calls 2049 A c l _ w hr hc (by rw [count_eq l hw 2049 (by omega), if_pos h0])
theorem anyWrong_c (c : List Int) (hm : c.length < 4398046511104) (w : World) (v : Value) (hv : SI (Kd.int .u64) w v c) : Calls Try.prog 146 #[v, .func (.func 124) #[] #[]] w fun e w' => e = .returned (.bool (c.any (fun v => !rightF v))) ∧ Below w.heap.size w w' := by
  obtain ⟨A, c', rfl, hc, hr⟩ := hv
  exact containsFunc_num_uint64 124 #[] (fun v => !rightF v) A c' c w hr hc (by omega) (fun W x _ => wrong_c x W) (enters_of Try.func124 (by kernel_rfl) rfl)
theorem zipU_c (l : List Sp) (c : List Int) (hw : wfSps l) (w : World) (v u : Value) (hv : SI kSp w v l) (hu : SI (Kd.int .u64) w u c) : Calls Try.prog 147 #[v, u] w fun e w' => ∃ v0, e = .returned (.tuple #[v0, .int .i64 (zipResU l c).2]) ∧ FI kPu w.heap.size w' v0 (zipResU l c).1 ∧ Below w.heap.size w w' := by
  obtain ⟨A, c1, rfl, hc, hr⟩ := hv
  obtain ⟨B, c2, rfl, hd, hs⟩ := hu
  refine (pairs_Zip_uint64.calls 4101 A c1 l B c2 c (zipResU l c).1 (zipResU l c).2 w hr hc hs hd (zipU_eq l c hw 4101 (by omega))).mono ?_
  rintro e w1 ⟨v0, rfl, h0, hb⟩
  exact ⟨v0, rfl, .of_R h0 (Nat.le_refl _), hb⟩
set_option maxHeartbeats 8000000 in
set_option maxRecDepth 100000 in
theorem fside_c (l : List Sp) (c : List Int) (hw : wfSps l) (hm : c.length < 4398046511104) (w : World) (v u : Value) (hv : SI kSp w v l) (hu : SI (Kd.int .u64) w u c) : Calls Try.prog 125 #[v, u] w fun e w' => ∃ v0, e = .returned (.tuple #[v0, .int .i64 (sideF l c).2]) ∧ FI kPu w.heap.size w' v0 (sideF l c).1 ∧ Below w.heap.size w w' := by
  have hv' := hv
  have hu' := hu
  obtain ⟨A, c1, e1, -⟩ := hv'
  obtain ⟨A1, c2, e2, -⟩ := hu'
  subst e1; subst e2
  have B := Aside0.mk (Below.refl w.heap.size w)
  have HV := Aside0.mk hv
  have HU := Aside0.mk hu
  have kc := spCheck_c l hw
  have kn := spCount_c l hw
  have kf := anyWrong_c c hm
  have kz := zipU_c l c hw
  have hpl : spCheck l = 0 → ((plN 0 l).length : Int) = cntN l := fun h => plN_length l 0 (fun s hs => (spRight_pos l _ _ _ (spCheck_zero h).2 s hs).1)
  have hzr : zipResU l c = if spCheck l = 0 then (if (plN 0 l).length = c.length then (List.zipWith (fun p x => (⟨p, x⟩ : Pu)) (plN 0 l) c, 0) else ([], 10)) else ([], spCheck l) := rfl
  clear hv hu hw hm
  unfold sideF
  by_cases he : spCheck l = 0
  rotate_left
  · rw [if_neg he]
    generalize spCheck l = r at *
    have d1 : (r == 0) = false := beq_eq_false_iff_ne.2 he
    have d2 : (r != 0) = true := bne_iff_ne.2 he
    have KC := Aside0.mk kc
    clear kc kn kf kz hpl hzr he
    go_enter Try.func125, Try.ntmps125
    go_wp2_with (first | (go_at_call 104; (with_reducible refine (KC.out _ _ HV.out).mono ?_); rintro e W1 ⟨rfl, hb⟩; replace B := Aside0.mk (below_then B.out B.out.size hb); replace HV := Aside0.mk (HV.out.below hb); replace HU := Aside0.mk (HU.out.below hb); clear  hb))
    go_ret2
    exact ⟨_, rfl, fun w _ => SI.nil _ w, B.out⟩
  rw [if_pos he]
  rw [he] at kc
  have KC := Aside0.mk kc
  have KN := Aside0.mk (kn he)
  have hp := hpl he
  rw [if_pos he] at hzr
  clear kc kn hpl he
  generalize cntN l = n at *
  by_cases hc : n = (c.length : Int)
  rotate_left
  · rw [if_neg hc]
    have d1 : (n == (c.length : Int)) = false := beq_eq_false_iff_ne.2 hc
    have d2 : (n != (c.length : Int)) = true := bne_iff_ne.2 hc
    clear kf kz hzr hp hc
    go_enter Try.func125, Try.ntmps125
    go_wp2_with (first | (go_at_call 104; (with_reducible refine (KC.out _ _ HV.out).mono ?_); rintro e W1 ⟨rfl, hb⟩; replace B := Aside0.mk (below_then B.out B.out.size hb); replace HV := Aside0.mk (HV.out.below hb); replace HU := Aside0.mk (HU.out.below hb); clear  hb) | (go_at_call 130; (with_reducible refine (KN.out _ _ HV.out).mono ?_); rintro e W2 ⟨rfl, hb⟩; replace B := Aside0.mk (below_then B.out B.out.size hb); replace HV := Aside0.mk (HV.out.below hb); replace HU := Aside0.mk (HU.out.below hb); clear  hb))
    go_ret2
    exact ⟨_, rfl, fun w _ => SI.nil _ w, B.out⟩
  rw [if_pos hc]
  have d1 : (n == (c.length : Int)) = true := beq_iff_eq.2 hc
  have d2 : (n != (c.length : Int)) = false := by rw [bne, d1]; rfl
  rw [if_pos (by omega)] at hzr
  rw [hzr] at kz
  clear hzr hp hc
  generalize List.zipWith (fun p x => (⟨p, x⟩ : Pu)) (plN 0 l) c = z at *
  have KZ := Aside0.mk kz
  clear kz
  generalize c.any (fun v => !rightF v) = b at *
  have KF := Aside0.mk kf
  clear kf
  cases b with
  | true =>
    rw [if_pos rfl]
    go_enter Try.func125, Try.ntmps125
    go_wp2_with (first | (go_at_call 104; (with_reducible refine (KC.out _ _ HV.out).mono ?_); rintro e W1 ⟨rfl, hb⟩; replace B := Aside0.mk (below_then B.out B.out.size hb); replace HV := Aside0.mk (HV.out.below hb); replace HU := Aside0.mk (HU.out.below hb); clear  hb) | (go_at_call 130; (with_reducible refine (KN.out _ _ HV.out).mono ?_); rintro e W2 ⟨rfl, hb⟩; replace B := Aside0.mk (below_then B.out B.out.size hb); replace HV := Aside0.mk (HV.out.below hb); replace HU := Aside0.mk (HU.out.below hb); clear  hb) | (go_at_call 146; (with_reducible refine (KF.out _ _ HU.out).mono ?_); rintro e W3 ⟨rfl, hb⟩; replace B := Aside0.mk (below_then B.out B.out.size hb); replace HV := Aside0.mk (HV.out.below hb); replace HU := Aside0.mk (HU.out.below hb); clear  hb))
    go_ret2
    exact ⟨_, rfl, fun w _ => SI.nil _ w, B.out⟩
  | false =>
    rw [if_neg (by simp)]
    go_enter Try.func125, Try.ntmps125
    go_wp2_with (first | (go_at_call 104; (with_reducible refine (KC.out _ _ HV.out).mono ?_); rintro e W1 ⟨rfl, hb⟩; replace B := Aside0.mk (below_then B.out B.out.size hb); replace HV := Aside0.mk (HV.out.below hb); replace HU := Aside0.mk (HU.out.below hb); clear  hb) | (go_at_call 130; (with_reducible refine (KN.out _ _ HV.out).mono ?_); rintro e W2 ⟨rfl, hb⟩; replace B := Aside0.mk (below_then B.out B.out.size hb); replace HV := Aside0.mk (HV.out.below hb); replace HU := Aside0.mk (HU.out.below hb); clear  hb) | (go_at_call 146; (with_reducible refine (KF.out _ _ HU.out).mono ?_); rintro e W3 ⟨rfl, hb⟩; replace B := Aside0.mk (below_then B.out B.out.size hb); replace HV := Aside0.mk (HV.out.below hb); replace HU := Aside0.mk (HU.out.below hb); clear  hb) | (go_at_call 147; (with_reducible refine (KZ.out _ _ _ HV.out HU.out).mono ?_); rintro e W4 ⟨v0, rfl, hz, hb⟩; have B0 := Aside0.mk B.out.size; replace B := Aside0.mk (below_then B.out B.out.size hb); replace HV := Aside0.mk (HV.out.below hb); replace HU := Aside0.mk (HU.out.below hb); have Z := Aside0.mk hz; have hz' := Z.out; obtain ⟨zA, zc, ez⟩ := hz'.slice; subst ez; clear hz hb))
    go_ret2
    exact ⟨_, rfl, Z.out.lower B0.out, B.out⟩
end Go.Proofs.Ytfbjjbbhnmoolaa.P
namespace Go.Proofs.Ytfbjjbbhnmoolaa.P
open Go.RowKit Go.Shelf Go.Proofs.YtfbjjbbhnmoolaaW.PrintWords Go.Proofs.YtfbjjbbhnmoolaaW.PrintLast Go.Proofs.YtfbjjbbhnmoolaaW.PrintMore
abbrev Fh := S31
def GI (w : World) (v : Value) (h : Fh) : Prop :=
  ∃ v5 v6 v7 v8, v = .agg #[.int .i64 h.f0, .int .u64 h.f1, .int .u64 h.f2, .int .u64 h.f3, .int .u64 h.f4, v5, v6, v7, v8] ∧ SI kSp w v5 h.f5 ∧ SI kSp w v6 h.f6 ∧ SI (Kd.int .u64) w v7 h.f7 ∧ SI (Kd.int .u64) w v8 h.f8
theorem GI.below {w w' : World} {v : Value} {h : Fh} (x : GI w v h) (hb : Below w.heap.size w w') : GI w' v h := by
  obtain ⟨v5, v6, v7, v8, e, h5, h6, h7, h8⟩ := x
  exact ⟨v5, v6, v7, v8, e, h5.below hb, h6.below hb, h7.below hb, h8.below hb⟩
theorem GI.open_ {w : World} {v : Value} {h : Fh} (x : GI w v h) : ∃ A5 c5 A6 c6 A7 c7 A8 c8, v = .agg #[.int .i64 h.f0, .int .u64 h.f1, .int .u64 h.f2, .int .u64 h.f3, .int .u64 h.f4, .slice A5 h.f5.length c5, .slice A6 h.f6.length c6, .slice A7 h.f7.length c7, .slice A8 h.f8.length c8] ∧
    SI kSp w (.slice A5 h.f5.length c5) h.f5 ∧ SI kSp w (.slice A6 h.f6.length c6) h.f6 ∧ SI (Kd.int .u64) w (.slice A7 h.f7.length c7) h.f7 ∧ SI (Kd.int .u64) w (.slice A8 h.f8.length c8) h.f8 := by
  obtain ⟨v5, v6, v7, v8, rfl, h5, h6, h7, h8⟩ := x
  obtain ⟨A5, c5, rfl, h51, h52⟩ := h5
  obtain ⟨A6, c6, rfl, h61, h62⟩ := h6
  obtain ⟨A7, c7, rfl, h71, h72⟩ := h7
  obtain ⟨A8, c8, rfl, h81, h82⟩ := h8
  exact ⟨A5, c5, A6, c6, A7, c7, A8, c8, rfl, .of h52 h51, .of h62 h61, .of h72 h71, .of h82 h81⟩
theorem GI.mk {w : World} {h : Fh} {v5 v6 v7 v8 : Value} (h5 : SI kSp w v5 h.f5) (h6 : SI kSp w v6 h.f6) (h7 : SI (Kd.int .u64) w v7 h.f7) (h8 : SI (Kd.int .u64) w v8 h.f8) :
    GI w (.agg #[.int .i64 h.f0, .int .u64 h.f1, .int .u64 h.f2, .int .u64 h.f3, .int .u64 h.f4, v5, v6, v7, v8]) h := ⟨v5, v6, v7, v8, rfl, h5, h6, h7, h8⟩
def emptyF : Fh := ⟨0, 0, 0, 0, 0, [], [], [], []⟩
def GF (base : Nat) (w : World) (v : Value) (h : Fh) : Prop :=
  ∃ v5 v6 v7 v8, v = .agg #[.int .i64 h.f0, .int .u64 h.f1, .int .u64 h.f2, .int .u64 h.f3, .int .u64 h.f4, v5, v6, v7, v8] ∧ FI kSp base w v5 h.f5 ∧ FI kSp base w v6 h.f6 ∧ FI (Kd.int .u64) base w v7 h.f7 ∧ FI (Kd.int .u64) base w v8 h.f8
theorem GF.now {base : Nat} {w : World} {v : Value} {h : Fh} (x : GF base w v h) : GI w v h := by
  obtain ⟨v5, v6, v7, v8, e, h5, h6, h7, h8⟩ := x
  exact ⟨v5, v6, v7, v8, e, h5.now, h6.now, h7.now, h8.now⟩
theorem GF.step {base : Nat} {w w' : World} {v : Value} {h : Fh} (x : GF base w v h) (k : KA base w w') : GF base w' v h := by
  obtain ⟨v5, v6, v7, v8, e, h5, h6, h7, h8⟩ := x
  exact ⟨v5, v6, v7, v8, e, h5.step k, h6.step k, h7.step k, h8.step k⟩
theorem GF.lower {base b : Nat} {w : World} {v : Value} {h : Fh} (x : GF b w v h) (hb : base ≤ b) : GF base w v h := by
  obtain ⟨v5, v6, v7, v8, e, h5, h6, h7, h8⟩ := x
  exact ⟨v5, v6, v7, v8, e, h5.lower hb, h6.lower hb, h7.lower hb, h8.lower hb⟩
theorem GF.mk {base : Nat} {w : World} {h : Fh} {v5 v6 v7 v8 : Value} (h5 : FI kSp base w v5 h.f5) (h6 : FI kSp base w v6 h.f6) (h7 : FI (Kd.int .u64) base w v7 h.f7) (h8 : FI (Kd.int .u64) base w v8 h.f8) :
    GF base w (.agg #[.int .i64 h.f0, .int .u64 h.f1, .int .u64 h.f2, .int .u64 h.f3, .int .u64 h.f4, v5, v6, v7, v8]) h := ⟨v5, v6, v7, v8, rfl, h5, h6, h7, h8⟩
theorem GF.empty (base : Nat) (w : World) : GF base w (.agg #[.int .i64 0, .int .u64 0, .int .u64 0, .int .u64 0, .int .u64 0, .slice none 0 0, .slice none 0 0, .slice none 0 0, .slice none 0 0]) emptyF :=
  GF.mk (h := emptyF) (fun w _ => SI.nil _ w) (fun w _ => SI.nil _ w) (fun w _ => SI.nil _ w) (fun w _ => SI.nil _ w)
theorem GF.open_ {base : Nat} {w : World} {v : Value} {h : Fh} (x : GF base w v h) : ∃ A5 c5 A6 c6 A7 c7 A8 c8, v = .agg #[.int .i64 h.f0, .int .u64 h.f1, .int .u64 h.f2, .int .u64 h.f3, .int .u64 h.f4, .slice A5 h.f5.length c5, .slice A6 h.f6.length c6, .slice A7 h.f7.length c7, .slice A8 h.f8.length c8] := by
  obtain ⟨A5, c5, A6, c6, A7, c7, A8, c8, e, -⟩ := x.now.open_
  exact ⟨A5, c5, A6, c6, A7, c7, A8, c8, e⟩
def wfF (h : Fh) : Prop := i64 h.f0 ∧ u64 h.f1 ∧ u64 h.f2 ∧ u64 h.f3 ∧ u64 h.f4 ∧ wfSps h.f5 ∧ wfSps h.f6 ∧ u64s h.f7 ∧ u64s h.f8 ∧ h.f7.length < 4398046511104 ∧ h.f8.length < 4398046511104
def openF (h : Fh) : List Pu × List Pu × Int :=
  if h.f0 < -4 ∨ h.f0 > 8 then ([], [], 21) else if rightF h.f1 = false then ([], [], 11) else if (!rightF h.f2 || !rightF h.f3) = true then ([], [], 22)
  else if (sideF h.f5 h.f7).2 ≠ 0 then ([], [], (sideF h.f5 h.f7).2) else if (sideF h.f6 h.f8).2 ≠ 0 then ([], [], (sideF h.f6 h.f8).2)
  else ((sideF h.f5 h.f7).1, (sideF h.f6 h.f8).1, 0)
def checkF (h : Fh) : Int := (openF h).2.2
set_option maxHeartbeats 16000000 in
set_option maxRecDepth 100000 in
theorem fopen_f (h : Fh) (hw : wfF h) (w : World) (v : Value) (hv : GI w v h) : Calls Try.prog 101 #[v] w fun e w' =>
    ∃ v0 v1 : Value, e = .returned (.tuple #[v0, v1, .int .i64 (openF h).2.2]) ∧ FI kPu w.heap.size w' v0 (openF h).1 ∧ FI kPu w.heap.size w' v1 (openF h).2.1 ∧ Below w.heap.size w w' := by
  have hud := Try.underlying31
  have th := thresh_c h.f1
  have wz := wrong_c h.f2
  have wc := wrong_c h.f3
  have s5 := fside_c h.f5 h.f7 hw.2.2.2.2.2.1 hw.2.2.2.2.2.2.2.2.2.1
  have s6 := fside_c h.f6 h.f8 hw.2.2.2.2.2.2.1 hw.2.2.2.2.2.2.2.2.2.2
  obtain ⟨A5, c5, A6, c6, A7, c7, A8, c8, e, h5, h6, h7, h8⟩ := hv.open_
  subst e
  have B := Aside0.mk (below_alloc (Below.refl w.heap.size w) (.cells #[.int .i64 h.f0, .int .u64 h.f1, .int .u64 h.f2, .int .u64 h.f3, .int .u64 h.f4, .slice A5 h.f5.length c5, .slice A6 h.f6.length c6, .slice A7 h.f7.length c7, .slice A8 h.f8.length c8] 31))
  have X := Aside0.mk (Blk.new w #[.int .i64 h.f0, .int .u64 h.f1, .int .u64 h.f2, .int .u64 h.f3, .int .u64 h.f4, .slice A5 h.f5.length c5, .slice A6 h.f6.length c6, .slice A7 h.f7.length c7, .slice A8 h.f8.length c8] 31)
  have hx := fun i => X.out.cell i
  have H5 := Aside0.mk (h5.below B.out)
  have H6 := Aside0.mk (h6.below B.out)
  have H7 := Aside0.mk (h7.below B.out)
  have H8 := Aside0.mk (h8.below B.out)
  clear hv h5 h6 h7 h8
  unfold openF
  generalize rightF h.f1 = r1 at *
  generalize rightF h.f2 = r2 at *
  generalize rightF h.f3 = r3 at *
  generalize sideF h.f5 h.f7 = q5 at *
  generalize sideF h.f6 h.f8 = q6 at *
  obtain ⟨p, e5⟩ := q5
  obtain ⟨n, e6⟩ := q6
  simp only at s5 s6 ⊢
  have TH := Aside0.mk th
  have WZ := Aside0.mk wz
  have WC := Aside0.mk wc
  have S5 := Aside0.mk s5
  have S6 := Aside0.mk s6
  clear th wz wc s5 s6 hw
  by_cases k1 : h.f0 < -4
  · rw [if_pos (Or.inl k1)]
    have k1b : decide (h.f0 < -4) = true := decide_eq_true k1
    clear k1
    go_enter Try.func101, Try.ntmps101
    go_wp2
    go_ret3
    exact ⟨_, _, rfl, fun w _ => SI.nil _ w, fun w _ => SI.nil _ w, B.out⟩
  by_cases k2 : h.f0 > 8
  · rw [if_pos (Or.inr k2)]
    have k1b : decide (h.f0 < -4) = false := decide_eq_false k1
    have k2b : decide (8 < h.f0) = true := decide_eq_true k2
    clear k1 k2
    go_enter Try.func101, Try.ntmps101
    go_wp2
    go_ret3
    exact ⟨_, _, rfl, fun w _ => SI.nil _ w, fun w _ => SI.nil _ w, B.out⟩
  rw [if_neg (by omega)]
  have k1b : decide (h.f0 < -4) = false := decide_eq_false k1
  have k2b : decide (8 < h.f0) = false := decide_eq_false k2
  clear k1 k2
  cases r1 with
  | false =>
    rw [if_pos rfl]
    go_enter Try.func101, Try.ntmps101
    go_wp2_with (first | (go_at_call 66; (with_reducible refine (TH.out _).mono ?_); rintro e W1 ⟨rfl, hb⟩; replace B := Aside0.mk (below_then B.out B.out.size hb); replace H5 := Aside0.mk (H5.out.below hb); replace H6 := Aside0.mk (H6.out.below hb); replace H7 := Aside0.mk (H7.out.below hb); replace H8 := Aside0.mk (H8.out.below hb); replace X := Aside0.mk (X.out.below hb); replace hx := fun i => X.out.cell i; clear  hb))
    go_ret3
    exact ⟨_, _, rfl, fun w _ => SI.nil _ w, fun w _ => SI.nil _ w, B.out⟩
  | true =>
    rw [if_neg (by simp)]
    cases r2 with
    | false =>
      rw [if_pos (by simp)]
      go_enter Try.func101, Try.ntmps101
      go_wp2_with (first | (go_at_call 66; (with_reducible refine (TH.out _).mono ?_); rintro e W1 ⟨rfl, hb⟩; replace B := Aside0.mk (below_then B.out B.out.size hb); replace H5 := Aside0.mk (H5.out.below hb); replace H6 := Aside0.mk (H6.out.below hb); replace H7 := Aside0.mk (H7.out.below hb); replace H8 := Aside0.mk (H8.out.below hb); replace X := Aside0.mk (X.out.below hb); replace hx := fun i => X.out.cell i; clear  hb) | (go_at_call 124; (with_reducible refine (WZ.out _).mono ?_); rintro e W2 ⟨rfl, hb⟩; replace B := Aside0.mk (below_then B.out B.out.size hb); replace H5 := Aside0.mk (H5.out.below hb); replace H6 := Aside0.mk (H6.out.below hb); replace H7 := Aside0.mk (H7.out.below hb); replace H8 := Aside0.mk (H8.out.below hb); replace X := Aside0.mk (X.out.below hb); replace hx := fun i => X.out.cell i; clear  hb))
      go_ret3
      exact ⟨_, _, rfl, fun w _ => SI.nil _ w, fun w _ => SI.nil _ w, B.out⟩
    | true =>
      cases r3 with
      | false =>
        rw [if_pos (by simp)]
        go_enter Try.func101, Try.ntmps101
        go_wp2_with (first | (go_at_call 66; (with_reducible refine (TH.out _).mono ?_); rintro e W1 ⟨rfl, hb⟩; replace B := Aside0.mk (below_then B.out B.out.size hb); replace H5 := Aside0.mk (H5.out.below hb); replace H6 := Aside0.mk (H6.out.below hb); replace H7 := Aside0.mk (H7.out.below hb); replace H8 := Aside0.mk (H8.out.below hb); replace X := Aside0.mk (X.out.below hb); replace hx := fun i => X.out.cell i; clear  hb) | (go_at_call 124; (with_reducible refine (WZ.out _).mono ?_); rintro e W2 ⟨rfl, hb⟩; replace B := Aside0.mk (below_then B.out B.out.size hb); replace H5 := Aside0.mk (H5.out.below hb); replace H6 := Aside0.mk (H6.out.below hb); replace H7 := Aside0.mk (H7.out.below hb); replace H8 := Aside0.mk (H8.out.below hb); replace X := Aside0.mk (X.out.below hb); replace hx := fun i => X.out.cell i; clear  hb) | (go_at_call 124; (with_reducible refine (WC.out _).mono ?_); rintro e W3 ⟨rfl, hb⟩; replace B := Aside0.mk (below_then B.out B.out.size hb); replace H5 := Aside0.mk (H5.out.below hb); replace H6 := Aside0.mk (H6.out.below hb); replace H7 := Aside0.mk (H7.out.below hb); replace H8 := Aside0.mk (H8.out.below hb); replace X := Aside0.mk (X.out.below hb); replace hx := fun i => X.out.cell i; clear  hb))
        go_ret3
        exact ⟨_, _, rfl, fun w _ => SI.nil _ w, fun w _ => SI.nil _ w, B.out⟩
      | true =>
        rw [if_neg (by simp)]
        by_cases d5 : e5 = 0
        rotate_left
        · rw [if_pos d5]
          have d5a : (e5 == 0) = false := beq_eq_false_iff_ne.2 d5
          have d5b : (e5 != 0) = true := bne_iff_ne.2 d5
          clear d5
          go_enter Try.func101, Try.ntmps101
          go_wp2_with (first | (go_at_call 66; (with_reducible refine (TH.out _).mono ?_); rintro e W1 ⟨rfl, hb⟩; replace B := Aside0.mk (below_then B.out B.out.size hb); replace H5 := Aside0.mk (H5.out.below hb); replace H6 := Aside0.mk (H6.out.below hb); replace H7 := Aside0.mk (H7.out.below hb); replace H8 := Aside0.mk (H8.out.below hb); replace X := Aside0.mk (X.out.below hb); replace hx := fun i => X.out.cell i; clear  hb) | (go_at_call 124; (with_reducible refine (WZ.out _).mono ?_); rintro e W2 ⟨rfl, hb⟩; replace B := Aside0.mk (below_then B.out B.out.size hb); replace H5 := Aside0.mk (H5.out.below hb); replace H6 := Aside0.mk (H6.out.below hb); replace H7 := Aside0.mk (H7.out.below hb); replace H8 := Aside0.mk (H8.out.below hb); replace X := Aside0.mk (X.out.below hb); replace hx := fun i => X.out.cell i; clear  hb) | (go_at_call 124; (with_reducible refine (WC.out _).mono ?_); rintro e W3 ⟨rfl, hb⟩; replace B := Aside0.mk (below_then B.out B.out.size hb); replace H5 := Aside0.mk (H5.out.below hb); replace H6 := Aside0.mk (H6.out.below hb); replace H7 := Aside0.mk (H7.out.below hb); replace H8 := Aside0.mk (H8.out.below hb); replace X := Aside0.mk (X.out.below hb); replace hx := fun i => X.out.cell i; clear  hb) | (go_at_call 125; (with_reducible refine (S5.out _ _ _ H5.out H7.out).mono ?_); rintro e W4 ⟨v5, rfl, hp, hb⟩; have hp := FI.lower hp B.out.size; replace B := Aside0.mk (below_then B.out B.out.size hb); replace H5 := Aside0.mk (H5.out.below hb); replace H6 := Aside0.mk (H6.out.below hb); replace H7 := Aside0.mk (H7.out.below hb); replace H8 := Aside0.mk (H8.out.below hb); replace X := Aside0.mk (X.out.below hb); replace hx := fun i => X.out.cell i; have P5 := Aside0.mk hp; have Q5 := Aside0.mk (show W4.heap.size = W4.heap.size from rfl); have hp' := P5.out; obtain ⟨pA, pc, ep⟩ := hp'.slice; subst ep; clear hp hb))
          go_ret3
          exact ⟨_, _, rfl, fun w _ => SI.nil _ w, fun w _ => SI.nil _ w, B.out⟩
        subst d5
        rw [if_neg (by simp)]
        by_cases d6 : e6 = 0
        rotate_left
        · rw [if_pos d6]
          have d6a : (e6 == 0) = false := beq_eq_false_iff_ne.2 d6
          have d6b : (e6 != 0) = true := bne_iff_ne.2 d6
          clear d6
          go_enter Try.func101, Try.ntmps101
          go_wp2_with (first | (go_at_call 66; (with_reducible refine (TH.out _).mono ?_); rintro e W1 ⟨rfl, hb⟩; replace B := Aside0.mk (below_then B.out B.out.size hb); replace H5 := Aside0.mk (H5.out.below hb); replace H6 := Aside0.mk (H6.out.below hb); replace H7 := Aside0.mk (H7.out.below hb); replace H8 := Aside0.mk (H8.out.below hb); replace X := Aside0.mk (X.out.below hb); replace hx := fun i => X.out.cell i; clear  hb) | (go_at_call 124; (with_reducible refine (WZ.out _).mono ?_); rintro e W2 ⟨rfl, hb⟩; replace B := Aside0.mk (below_then B.out B.out.size hb); replace H5 := Aside0.mk (H5.out.below hb); replace H6 := Aside0.mk (H6.out.below hb); replace H7 := Aside0.mk (H7.out.below hb); replace H8 := Aside0.mk (H8.out.below hb); replace X := Aside0.mk (X.out.below hb); replace hx := fun i => X.out.cell i; clear  hb) | (go_at_call 124; (with_reducible refine (WC.out _).mono ?_); rintro e W3 ⟨rfl, hb⟩; replace B := Aside0.mk (below_then B.out B.out.size hb); replace H5 := Aside0.mk (H5.out.below hb); replace H6 := Aside0.mk (H6.out.below hb); replace H7 := Aside0.mk (H7.out.below hb); replace H8 := Aside0.mk (H8.out.below hb); replace X := Aside0.mk (X.out.below hb); replace hx := fun i => X.out.cell i; clear  hb) | (go_at_call 125; (with_reducible refine (S5.out _ _ _ H5.out H7.out).mono ?_); rintro e W4 ⟨v5, rfl, hp, hb⟩; have hp := FI.lower hp B.out.size; replace B := Aside0.mk (below_then B.out B.out.size hb); replace H5 := Aside0.mk (H5.out.below hb); replace H6 := Aside0.mk (H6.out.below hb); replace H7 := Aside0.mk (H7.out.below hb); replace H8 := Aside0.mk (H8.out.below hb); replace X := Aside0.mk (X.out.below hb); replace hx := fun i => X.out.cell i; have P5 := Aside0.mk hp; have Q5 := Aside0.mk (show W4.heap.size = W4.heap.size from rfl); have hp' := P5.out; obtain ⟨pA, pc, ep⟩ := hp'.slice; subst ep; clear hp hb) | (go_at_call 125; (with_reducible refine (S6.out _ _ _ H6.out H8.out).mono ?_); rintro e W5 ⟨v6, rfl, hp, hb⟩; have hp := FI.lower hp B.out.size; replace B := Aside0.mk (below_then B.out B.out.size hb); replace H5 := Aside0.mk (H5.out.below hb); replace H6 := Aside0.mk (H6.out.below hb); replace H7 := Aside0.mk (H7.out.below hb); replace H8 := Aside0.mk (H8.out.below hb); replace P5 := Aside0.mk (P5.out.step (KA.below hb)); replace X := Aside0.mk (X.out.below hb); replace hx := fun i => X.out.cell i; have P6 := Aside0.mk hp; have hp' := P6.out; obtain ⟨nA, nc, en⟩ := hp'.slice; subst en; clear hp hb))
          go_ret3
          exact ⟨_, _, rfl, fun w _ => SI.nil _ w, fun w _ => SI.nil _ w, B.out⟩
        subst d6
        rw [if_neg (by simp)]
        go_enter Try.func101, Try.ntmps101
        go_wp2_with (first | (go_at_call 66; (with_reducible refine (TH.out _).mono ?_); rintro e W1 ⟨rfl, hb⟩; replace B := Aside0.mk (below_then B.out B.out.size hb); replace H5 := Aside0.mk (H5.out.below hb); replace H6 := Aside0.mk (H6.out.below hb); replace H7 := Aside0.mk (H7.out.below hb); replace H8 := Aside0.mk (H8.out.below hb); replace X := Aside0.mk (X.out.below hb); replace hx := fun i => X.out.cell i; clear  hb) | (go_at_call 124; (with_reducible refine (WZ.out _).mono ?_); rintro e W2 ⟨rfl, hb⟩; replace B := Aside0.mk (below_then B.out B.out.size hb); replace H5 := Aside0.mk (H5.out.below hb); replace H6 := Aside0.mk (H6.out.below hb); replace H7 := Aside0.mk (H7.out.below hb); replace H8 := Aside0.mk (H8.out.below hb); replace X := Aside0.mk (X.out.below hb); replace hx := fun i => X.out.cell i; clear  hb) | (go_at_call 124; (with_reducible refine (WC.out _).mono ?_); rintro e W3 ⟨rfl, hb⟩; replace B := Aside0.mk (below_then B.out B.out.size hb); replace H5 := Aside0.mk (H5.out.below hb); replace H6 := Aside0.mk (H6.out.below hb); replace H7 := Aside0.mk (H7.out.below hb); replace H8 := Aside0.mk (H8.out.below hb); replace X := Aside0.mk (X.out.below hb); replace hx := fun i => X.out.cell i; clear  hb) | (go_at_call 125; (with_reducible refine (S5.out _ _ _ H5.out H7.out).mono ?_); rintro e W4 ⟨v5, rfl, hp, hb⟩; have hp := FI.lower hp B.out.size; replace B := Aside0.mk (below_then B.out B.out.size hb); replace H5 := Aside0.mk (H5.out.below hb); replace H6 := Aside0.mk (H6.out.below hb); replace H7 := Aside0.mk (H7.out.below hb); replace H8 := Aside0.mk (H8.out.below hb); replace X := Aside0.mk (X.out.below hb); replace hx := fun i => X.out.cell i; have P5 := Aside0.mk hp; have Q5 := Aside0.mk (show W4.heap.size = W4.heap.size from rfl); have hp' := P5.out; obtain ⟨pA, pc, ep⟩ := hp'.slice; subst ep; clear hp hb) | (go_at_call 125; (with_reducible refine (S6.out _ _ _ H6.out H8.out).mono ?_); rintro e W5 ⟨v6, rfl, hp, hb⟩; have hp := FI.lower hp B.out.size; replace B := Aside0.mk (below_then B.out B.out.size hb); replace H5 := Aside0.mk (H5.out.below hb); replace H6 := Aside0.mk (H6.out.below hb); replace H7 := Aside0.mk (H7.out.below hb); replace H8 := Aside0.mk (H8.out.below hb); replace P5 := Aside0.mk (P5.out.step (KA.below hb)); replace X := Aside0.mk (X.out.below hb); replace hx := fun i => X.out.cell i; have P6 := Aside0.mk hp; have hp' := P6.out; obtain ⟨nA, nc, en⟩ := hp'.slice; subst en; clear hp hb))
        go_ret3
        exact ⟨_, _, rfl, P5.out, P6.out, B.out⟩
theorem fopen_c (h : Fh) (hw : wfF h) (w : World) (v : Value) (hv : GI w v h) : Calls Try.prog 101 #[v] w fun e w' =>
    ∃ v0 v1 : Value, e = .returned (.tuple #[v0, v1, .int .i64 (openF h).2.2]) ∧ SI kPu w' v0 (openF h).1 ∧ SI kPu w' v1 (openF h).2.1 ∧ Below w.heap.size w w' :=
  (fopen_f h hw w v hv).mono fun e w1 ⟨v0, v1, e1, h0, h1, hb⟩ => ⟨v0, v1, e1, h0.now, h1.now, hb⟩
set_option maxHeartbeats 4000000 in
set_option maxRecDepth 100000 in
theorem fcheck_c (h : Fh) (hw : wfF h) (w : World) (v : Value) (hv : GI w v h) : Calls Try.prog 87 #[v] w fun e w' =>
    e = .returned (.int .i64 (checkF h)) ∧ Below w.heap.size w w' := by
  have hu := Try.underlying31
  obtain ⟨A5, c5, A6, c6, A7, c7, A8, c8, e, -⟩ := hv.open_
  subst e
  have HV := Aside0.mk hv
  have HW := Aside0.mk hw
  clear hv hw
  go_enter Try.func87, Try.ntmps87
  go_wp2_with (go_at_call 101; (with_reducible refine (fopen_c h HW.out _ _ (HV.out.below (below_alloc (Below.refl _ _) _))).mono ?_); rintro e w1 ⟨v0, v1, rfl, h0, h1, hb⟩; have HB := Aside0.mk (below_then (below_alloc (Below.refl w.heap.size w) _) (by simp) hb); clear h0 h1 hb)
  go_ret
  exact ⟨rfl, HB.out⟩
def pairsF (h : Fh) (side : Int) : List Pu × Int := if side = 0 then ((openF h).1, (openF h).2.2) else if side = 1 then ((openF h).2.1, (openF h).2.2) else ([], 11)
set_option maxHeartbeats 4000000 in
set_option maxRecDepth 100000 in
theorem fpairs_c (h : Fh) (hw : wfF h) (side : Int) (w : World) (v : Value) (hv : GI w v h) : Calls Try.prog 58 #[v, .int .i64 side] w fun e w' =>
    ∃ v0, e = .returned (.tuple #[v0, .int .i64 (pairsF h side).2]) ∧ SI kPu w' v0 (pairsF h side).1 ∧ Below w.heap.size w w' := by
  have hu := Try.underlying31
  obtain ⟨A5, c5, A6, c6, A7, c7, A8, c8, e, -⟩ := hv.open_
  subst e
  have HV := Aside0.mk hv
  have HW := Aside0.mk hw
  clear hv hw
  unfold pairsF
  by_cases c0 : side = 0
  · subst c0
    rw [if_pos rfl]
    go_enter Try.func58, Try.ntmps58
    go_wp2_with (go_at_call 101; (with_reducible refine (fopen_c h HW.out _ _ (HV.out.below (below_alloc (Below.refl _ _) _))).mono ?_); rintro e w1 ⟨v0, v1, rfl, h0, h1, hb⟩; have HO := Aside0.mk h0; have HB := Aside0.mk (below_then (below_alloc (Below.refl w.heap.size w) _) (by simp) hb); clear h0 h1 hb)
    go_ret2
    exact ⟨_, rfl, HO.out, HB.out⟩
  · rw [if_neg c0]
    have c0a : (side == 0) = false := beq_eq_false_iff_ne.2 c0
    have c0b : (side != 0) = true := bne_iff_ne.2 c0
    by_cases c1 : side = 1
    · subst c1
      rw [if_pos rfl]
      clear c0
      go_enter Try.func58, Try.ntmps58
      go_wp2_with (go_at_call 101; (with_reducible refine (fopen_c h HW.out _ _ (HV.out.below (below_alloc (Below.refl _ _) _))).mono ?_); rintro e w1 ⟨v0, v1, rfl, h0, h1, hb⟩; have HO := Aside0.mk h1; have HB := Aside0.mk (below_then (below_alloc (Below.refl w.heap.size w) _) (by simp) hb); clear h0 h1 hb)
      go_ret2
      exact ⟨_, rfl, HO.out, HB.out⟩
    · rw [if_neg c1]
      have c1a : (side == 1) = false := beq_eq_false_iff_ne.2 c1
      have c1b : (side != 1) = true := bne_iff_ne.2 c1
      clear c0 c1
      go_enter Try.func58, Try.ntmps58
      go_wp2_with (go_at_call 101; (with_reducible refine (fopen_c h HW.out _ _ (HV.out.below (below_alloc (Below.refl _ _) _))).mono ?_); rintro e w1 ⟨v0, v1, rfl, h0, h1, hb⟩; have HO := Aside0.mk h1; have HB := Aside0.mk (below_then (below_alloc (Below.refl w.heap.size w) _) (by simp) hb); clear h0 h1 hb)
      go_ret2
      exact ⟨_, rfl, SI.nil _ _, HB.out⟩
end Go.Proofs.Ytfbjjbbhnmoolaa.P
namespace Go.Proofs.Ytfbjjbbhnmoolaa.P
open Go.RowKit Go.Shelf Go.Proofs.YtfbjjbbhnmoolaaW.PrintWords Go.Proofs.YtfbjjbbhnmoolaaW.PrintLast Go.Proofs.YtfbjjbbhnmoolaaW.PrintMore
def PredP_uint64 (g : Nat) (cap : Array Value) (p : S137 → Bool) (w : World) : Prop :=
  ∀ (W : World) (x : S137), Below w.heap.size w W → Calls Try.prog g (#[.agg #[.int .i64 x.f0, .int .u64 x.f1]] ++ cap) W fun e w' => e = .returned (.bool (p x)) ∧ Below W.heap.size W w'
theorem rd_nat_uint64 (l : List S137) (i : Nat) (h : i < l.length) : rd_T137 l (i : Int) = l[i] := by
  unfold rd_T137; simp [List.getD, h]
set_option maxHeartbeats 2000000 in
theorem indexFunc_pairs_uint64 (g : Nat) (cap : Array Value) (p : S137 → Bool) (A : Option Addr) (c : Nat) (l : List S137) (w : World)
    (hr : Kd.C k137 w A l.length l) (hc : l.length ≤ c) (hm : l.length ≤ 9223372036854775807) (hp : PredP_uint64 g cap p w) (eg : ∀ args w, (callFunc g args).run Try.prog w = .ok (.enter g args) w) :
    Calls Try.prog 155 #[.slice A l.length c, .func (.func g) #[] cap] w fun e w' => e = .returned (.int .i64 (idxP p l)) ∧ Below w.heap.size w w' := by
  have hu := Try.underlying137
  have HR := Aside0.mk hr
  have HP := Aside0.mk hp
  clear hr hp
  go_enter Try.func155, Try.ntmps155
  go_wp2
  go_loopg [5, 8] l.length (fun gg _ s8 wr => ∃ kk : Nat, kk ≤ l.length ∧ l.length - kk ≤ gg ∧ s8 = .int .i64 kk ∧ Aside0 (Below w.heap.size w wr) ∧ Aside0 (∀ j (hj : j < kk) (hj2 : j < l.length), p l[j] = false))
  case atStart => exact ⟨0, Nat.zero_le _, by omega, rfl, ⟨Below.refl _ w⟩, ⟨fun j hj => absurd hj (Nat.not_lt_zero _)⟩⟩
  case round =>
    obtain ⟨kk, hkk, hg, rfl, HB, HA⟩ := hrel
    by_cases hlt : kk < l.length
    · have hlti : (kk : Int) < (l.length : Int) := by omega
      obtain ⟨ad, e1, hx0, hx1⟩ := at_T137 HR.out kk (by omega) (by omega)
      cases e1
      replace hx0 := (HB.out.cell (World.block_lt_of_cell? w _ hx0)).trans hx0
      replace hx1 := (HB.out.cell (World.block_lt_of_cell? w _ hx1)).trans hx1
      rw [rd_nat_uint64 l kk hlt, Int.toNat_natCast] at hx0 hx1
      have hcall := HP.out wr l[kk] HB.out
      generalize hy : l[kk] = y at hx0 hx1 hcall
      have HY := Aside0.mk hy
      clear hy
      cases hq : p y with
      | true =>
        rw [hq] at hcall
        have HQ := Aside0.mk hq
        clear hq
        have HC := Aside0.mk hcall
        clear hcall
        go_wp2_with (go_at_fn g; refine HC.out.mono ?_; rintro e w' ⟨rfl, hb'⟩)
        go_ret
        refine ⟨?_, HB.out.trans (hb'.mono HB.out.size)⟩
        rw [idxP_hit p l kk hlt (by rw [HY.out]; exact HQ.out) (fun j hj => HA.out j hj (by omega))]; rfl
      | false =>
        rw [hq] at hcall
        have HQ := Aside0.mk hq
        clear hq
        have HC := Aside0.mk hcall
        clear hcall
        go_wp2_with (go_at_fn g; refine HC.out.mono ?_; rintro e w' ⟨rfl, hb'⟩)
        go_roundg (l.length - (kk + 1))
        case measure => omega
        case rel =>
          refine ⟨kk + 1, by omega, by omega, by go_num, ⟨HB.out.trans (hb'.mono HB.out.size)⟩, ⟨fun j hj hj2 => ?_⟩⟩
          by_cases e : j = kk
          · subst e
            rw [HY.out]; exact HQ.out
          · exact HA.out j (by omega) hj2
    · have hlti : ¬ (kk : Int) < (l.length : Int) := by omega
      have hk : kk = l.length := by omega
      go_wp2
      go_ret
      refine ⟨?_, HB.out⟩
      rw [idxP_miss p l (fun j hj => HA.out j (by omega) hj)]; rfl
end Go.Proofs.Ytfbjjbbhnmoolaa.P
namespace Go.Proofs.Ytfbjjbbhnmoolaa.P
open Go.RowKit Go.Shelf Go.Proofs.YtfbjjbbhnmoolaaW.PrintWords Go.Proofs.YtfbjjbbhnmoolaaW.PrintLast Go.Proofs.YtfbjjbbhnmoolaaW.PrintMore
def slices_Clone_pairU.f (l0 : List S137) : Option (List S137) := if l0.length < 8796093022208 then some l0 else none
set_option maxHeartbeats 2000000 in
set_option maxRecDepth 100000 in
theorem slices_Clone_pairU.calls (A0 : Option Addr) (c0 : Nat) (l0 r : List S137) (w : World) (hr0 : Kd.C k137 w A0 l0.length l0) (hc0 : l0.length ≤ c0) (h : slices_Clone_pairU.f l0 = some r) :
    Calls Try.prog 141 #[.slice A0 l0.length c0] w fun e w' => ∃ v0_ : Value, e = .returned (v0_) ∧ Kd.R k137 137 w' w.heap.size (fun _ => True) v0_ r ∧ Below w.heap.size w w' := by
  obtain ⟨hm, h2⟩ := of_ite_some h
  subst h2
  clear h
  have hu := Try.underlying99
  have HM := Aside0.mk hm
  clear hm
  cases A0 with
  | none =>
    have hl : l0 = [] := by
      rcases Nat.eq_zero_or_pos l0.length with h | h
      · exact List.length_eq_zero_iff.1 h
      · obtain ⟨ad, e, _⟩ := hr0.2.2 h
        cases e
    subst hl
    have hn : ∀ W n c, (binOp .eql 99 (.slice none n c) (.slice none 0 0)).run Try.prog W = .ok (.bool true) W := fun W n c => by
      exact Lib.run_eql_slice_nil W _ _ none n c 0 0 Try.underlying99
    go_enter Try.func141, Try.ntmps141
    go_wp2
    go_ret
    exact ⟨_, rfl, Kd.R_nil _ _ _ _ _, Below.refl _ _⟩
  | some ad =>
    have hn : ∀ W n c, (binOp .eql 99 (.slice (some ad) n c) (.slice none 0 0)).run Try.prog W = .ok (.bool false) W := fun W n c => by
      exact Lib.run_eql_slice_nil W _ _ (some ad) n c 0 0 Try.underlying99
    have HR := Aside0.mk hr0
    clear hr0
    go_enter Try.func141, Try.ntmps141
    go_wp2_with ((with_reducible refine gate_builtin (b := .append) (xs := #[.tmp 5, .tmp 6]) rfl ?_); at_builtin; refine Kd.R_append_rows k137 (w0 := w) (Rr := k137.K w) w.heap.size rfl (.tmp 5) (.tmp 6) 99 137 _ 16 rfl Try.underlying99 info137 rfl (by decide) (by omega) (.slice (some ⟨w.heap.size, 0, none⟩) 0 0) [] l0 (some ad) l0.length c0 (fun _ => True) (fun _ => False) rfl rfl ?aO ?aR ?aK (fun _ hk => hk.elim) (fun _ _ => trivial) ?aB ?aS ?aL ?_; (case aO => exact ⟨fun _ _ => trivial, [], ⟨rfl, .inr ⟨w.heap.size, 0, #[], rfl, Nat.le_refl _, by simpa using blk_new w _, Nat.le_refl _, by unfold maxLen; omega, rfl, rfl⟩⟩, Reps.none _ _⟩); (case aR => exact HR.out.imp_ (below_alloc (Below.refl _ _) _) (fun _ _ h => h)); (case aK => intro x cs hx; rw [k137_open hx]; exact k137_mkM _ _ _ x); (case aB => exact below_alloc (Below.refl _ _) _); (case aS => simp); (case aL => have := HM.out; simp; omega); intro v1 w1 ho hb hg hat; rw [List.nil_append] at ho; have HO := Aside0.mk ho; have HB := Aside0.mk hb; clear ho hb hg hat)
    go_ret
    exact ⟨_, rfl, HO.out, HB.out⟩
end Go.Proofs.Ytfbjjbbhnmoolaa.P
namespace Go.Proofs.Ytfbjjbbhnmoolaa.P
open Go.RowKit Go.Shelf Go.Proofs.YtfbjjbbhnmoolaaW.PrintWords Go.Proofs.YtfbjjbbhnmoolaaW.PrintLast Go.Proofs.YtfbjjbbhnmoolaaW.PrintMore
theorem flat_uint64 : ∀ w w1 base ok x cs, k137.M w base ok x cs → k137.M w1 base ok x cs := fun w w1 base ok x cs h => by
  rw [k137_openM h]; exact k137_mkM _ _ _ x
theorem zero_uint64 (n : Nat) : (Builtin.zeroCells (Value.agg #[.int .i64 0, .int .u64 0]).cells n).toList.length = n * 2 ∧ ∀ v ∈ (Builtin.zeroCells (Value.agg #[.int .i64 0, .int .u64 0]).cells n).toList, v.oneCell' = true := by
  have hc : (Value.agg #[.int .i64 0, .int .u64 0]).cells = #[.int .i64 0, .int .u64 0] := by kernel_rfl
  rw [hc]
  refine ⟨by simp [Builtin.zeroCells], fun v hv => ?_⟩
  simp only [Builtin.zeroCells, Array.toList_map, List.mem_map] at hv
  obtain ⟨i, _, rfl⟩ := hv
  have : i % 2 = 0 ∨ i % 2 = 1 := by omega
  rcases this with h | h <;> simp [h] <;> rfl
set_option maxHeartbeats 4000000 in
set_option maxRecDepth 100000 in
theorem deleteFunc_uint64 (g : Nat) (cap : Array Value) (p : S137 → Bool) (w0 w : World) (v : Value) (xs : List S137)
    (HO : Kd.R k137 137 w w0.heap.size (fun _ => True) v xs) (HB : Below w0.heap.size w0 w) (hp : PredP_uint64 g cap p w0) (eg : ∀ args w, (callFunc g args).run Try.prog w = .ok (.enter g args) w) :
    Calls Try.prog 140 #[v, .func (.func g) #[] cap] w fun e w' => ∃ v' : Value, e = .returned v' ∧ Kd.R k137 137 w' w0.heap.size (fun _ => True) v' (xs.filter (fun x => !p x)) ∧ Below w0.heap.size w0 w' := by
  have hu := Try.underlying137
  obtain ⟨A, c, rfl, hlc, hC⟩ := Kd.R_reads HO
  have hm : xs.length ≤ 9223372036854775807 := hC.2.1
  have HI := indexFunc_pairs_uint64 g cap p A c xs w hC hlc hm (fun W x hb => hp W x (below_then HB HB.size hb)) eg
  have HX := idxP_cases p xs
  have HP := Aside0.mk hp
  clear hp
  generalize idxP p xs = ix at HI HX
  rcases HX with ⟨rfl, hfil⟩ | ⟨i0, hi0, rfl, hhit, hbef⟩
  · rw [hfil]
    have HI := Aside0.mk HI
    have HO := Aside0.mk HO
    have HB := Aside0.mk HB
    clear hC hfil
    go_enter Try.func140, Try.ntmps140
    go_wp2_with (go_at_call 155; refine HI.out.mono ?_; rintro e w' ⟨rfl, hb'⟩)
    go_ret
    exact ⟨_, rfl, Kd.R_below HO.out hb', below_then HB.out HB.out.size hb'⟩
  · obtain ⟨gb, cp, hv, hbg, hgl, cells, hcells⟩ := Kd.R_form HO (by omega)
    injection hv with hA _ hcp
    subst hA; subst hcp
    have hne : (((i0 : Int)) == -1) = false := beq_eq_false_iff_ne.2 (by omega)
    have HS := DelInv.start hi0 hhit hbef
    have HI := Aside0.mk HI
    have HO := Aside0.mk HO
    have HB := Aside0.mk HB
    have HS := Aside0.mk HS
    have HM := Aside0.mk hm
    have hi0' : i0 + 1 ≤ xs.length := hi0
    clear hC hhit hbef hcells
    go_enter Try.func140, Try.ntmps140
    go_wp2_with (go_at_call 155; refine HI.out.mono ?_; rintro e w' ⟨rfl, hb'⟩; have HO1 := Aside0.mk (Kd.R_below HO.out hb'); have HB1 := Aside0.mk (below_then HB.out HB.out.size hb'); clear hb' HI HO HB)
    go_loopg [5, 6] xs.length (fun gg s5 s6 wr => ∃ (i j : Nat) (ys : List S137), s5 = .int .i64 i ∧ s6 = .int .i64 j ∧ j ≤ xs.length ∧ xs.length - j ≤ gg ∧ Aside0 (DelInv p xs i j ys) ∧ Aside0 (Kd.R k137 137 wr w0.heap.size (fun _ => True) (.slice (some ⟨gb, 0, none⟩) xs.length c) ys) ∧ Aside0 (Below w0.heap.size w0 wr))
    case atStart => exact ⟨i0, i0 + 1, xs, rfl, by go_num, by omega, by omega, HS, HO1, HB1⟩
    case round =>
      obtain ⟨i, j, ys, rfl, rfl, hj, hg, HD, HO, HB⟩ := hrel
      clear HS HO1 HB1
      have hlen := HD.out.len
      have hij := HD.out.lt
      by_cases hlt : j < xs.length
      · have hlti : (j : Int) < (xs.length : Int) := by omega
        have hii : (i : Int) < (xs.length : Int) := by omega
        obtain ⟨hj2, hyx⟩ := HD.out.at_ hlt
        have hC := (Kd.R_reads' HO.out).2.2
        obtain ⟨ad, e1, hx0, hx1⟩ := at_T137 hC j (by omega) (by omega)
        cases e1
        rw [rd_nat_uint64 ys j hj2, Int.toNat_natCast, hyx] at hx0 hx1
        rw [add_plain] at hx0 hx1
        dsimp only at hx1
        have hcall := HP.out (wr.alloc (.cells #[.int .i64 xs[j].f0, .int .u64 xs[j].f1] 137)) xs[j] (below_then HB.out HB.out.size (below_alloc (Below.refl _ _) _))
        clear hC
        cases hq : p xs[j] with
        | true =>
          rw [hq] at hcall
          have HD' := Aside0.mk (HD.out.skip hlt hq)
          have HC := Aside0.mk hcall
          clear hcall hq hyx
          generalize xs[j] = y at hx0 hx1 HC
          go_wp2_with (go_at_fn g; refine HC.out.mono ?_; rintro e w' ⟨rfl, hb'⟩; have HB1 := Aside0.mk (below_then (below_then HB.out HB.out.size (below_alloc (Below.refl _ _) _)) (by have := HB.out.size; simp; omega) hb'); have HO1 := Aside0.mk (Kd.R_below (Kd.R_below HO.out (below_alloc (Below.refl _ _) _)) hb'); clear hb' HO HB)
          go_roundg (xs.length - (j + 1))
          case measure => omega
          case rel => exact ⟨i, j + 1, ys, rfl, by go_num, by omega, by omega, HD', HO1, HB1⟩
        | false =>
          rw [hq] at hcall
          have HD' := Aside0.mk (HD.out.keep hlt hq)
          have HC := Aside0.mk hcall
          clear hcall hq hyx
          generalize xs[j] = y at hx0 hx1 HC HD'
          go_wp2_with (first | (go_at_fn g; refine HC.out.mono ?_; rintro e w' ⟨rfl, hb'⟩; have hv0 : w'.cell? ⟨wr.heap.size, 0, none⟩ = some (.int .i64 y.f0) := (hb'.cell (p := ⟨wr.heap.size, 0, none⟩) (by simp)).trans (by simp); have hv1 : w'.cell? ⟨wr.heap.size, 1, none⟩ = some (.int .u64 y.f1) := (hb'.cell (p := ⟨wr.heap.size, 1, none⟩) (by simp)).trans (by simp); have HB1 := Aside0.mk (below_then (below_then HB.out HB.out.size (below_alloc (Below.refl _ _) _)) (by have := HB.out.size; simp; omega) hb'); have HO1 := Aside0.mk (Kd.R_below (Kd.R_below HO.out (below_alloc (Below.refl _ _) _)) hb'); clear hb' HO HB) | ((with_reducible refine gate_ (.store 137 (.tmp 33) (.tmp 32)) rfl ?_); obtain ⟨ce, hcl, hcM, hcc, hcf⟩ := Kd.R_elem HO1.out z137 (i : Int) (by omega) (by omega); refine Kd.R_store k137 (w0 := w0) w0.heap.size rfl rfl 137 (.tmp 33) (.tmp 32) rfl 137 (i : Int) 0 ys y (.agg #[.int .i64 y.f0, .int .u64 y.f1]) [.int .i64 y.f0, .int .u64 y.f1] ce (fun _ => True) (fun _ => False) (by first | rfl | simp) rfl rfl rfl (by kernel_rfl) (by intro q hq; simp at hq; rcases hq with rfl | rfl <;> rfl) HO1.out (by omega) (by omega) hcl hcc (by show 0 + 2 ≤ 2; omega) (by rw [show ce.drop (0 + [Value.int .i64 y.f0, Value.int .u64 y.f1].length) = [] from List.drop_eq_nil_of_le (by rw [hcl]; exact Nat.le_refl 2)]; exact k137_mkM _ _ _ y) (fun _ h => h.elim) HB1.out ?_; intro w1 ho hb hg; rw [Int.toNat_natCast] at ho; have HO2 := Aside0.mk ho; have HB2 := Aside0.mk hb; clear ho hb hg hcl hcM hcc hcf HO1 HB1))
          go_roundg (xs.length - (j + 1))
          case measure => omega
          case rel => exact ⟨i + 1, j + 1, ys.set i y, by go_num, by go_num, by omega, by omega, HD', HO2, HB2⟩
      · have hjx : j = xs.length := by omega
        subst hjx
        have hlti : ¬ (xs.length : Int) < (xs.length : Int) := by omega
        have hii : (i : Int) < (xs.length : Int) := by omega
        obtain ⟨inner, hown⟩ := Kd.R_own HO.out
        obtain ⟨cur, hcur, hcs, hnc⟩ : ∃ cur, wr.heap[gb]? = some (.cells cur 137 (0, 0)) ∧ cur.size = c * 2 ∧ xs.length ≤ c := by
          rcases hown.2 with ⟨hv, _⟩ | ⟨g', cap', cur, hv, hb, hh, hnc, hcm, hcs, ht⟩
          · cases hv
          · injection hv with ha _ hc
            injection ha with ha
            injection ha with hg'
            subst hg'; subst hc
            exact ⟨cur, hh, hcs, by omega⟩
        have hzl := zero_uint64 (xs.length - i)
        have hpc := piece_there hcur (i * 2) (Builtin.zeroCells (Value.agg #[.int .i64 0, .int .u64 0]).cells (xs.length - i)).toList.length (by rw [hzl.1]; omega)
        have hcl : ∀ ty, (Builtin.clear_ #[99] ty #[.slice (some ⟨gb, i * 2, none⟩) (xs.length - i) (c - i)]).run Try.prog wr = .ok (.tuple #[]) (wr.setCells gb (i * 2) (Builtin.zeroCells (Value.agg #[.int .i64 0, .int .u64 0]).cells (xs.length - i)).toList) := fun ty =>
          run_clear_cells wr _ _ ty (Value.agg #[.int .i64 0, .int .u64 0]) Try.underlying99 (fun w => by kernel_rfl) gb (i * 2) _ _ (by omega) hzl.2 hpc.1 hpc.2
        have HF := Aside0.mk HD.out.done
        have HR2 : Aside0 (Kd.R k137 137 (wr.setCells gb (i * 2) (Builtin.zeroCells (Value.agg #[.int .i64 0, .int .u64 0]).cells (xs.length - i)).toList) w0.heap.size (fun _ => True) (.slice (some ⟨gb, 0, none⟩) i c) (ys.take i)) := ⟨R_beyond flat_uint64 (Kd.R_take HO.out (by omega)) _ _ (by show i * 2 ≤ i * 2; omega) (by rw [hzl.1]; show i * 2 + (xs.length - i) * 2 ≤ c * 2; omega)⟩
        have HB2 : Aside0 (Below w0.heap.size w0 (wr.setCells gb (i * 2) (Builtin.zeroCells (Value.agg #[.int .i64 0, .int .u64 0]).cells (xs.length - i)).toList)) := ⟨by
          obtain ⟨h1, h2, h3, h4⟩ := setCells_same gb (Builtin.zeroCells (Value.agg #[.int .i64 0, .int .u64 0]).cells (xs.length - i)).toList (i * 2) wr
          refine HB.out.trans ⟨h1, h2, h3, by rw [h4]; exact Nat.le_refl _, fun k hk => setCells_far _ _ k (by omega)⟩⟩
        have hic : (c = i) = False := by simp; omega
        clear HO HB hpc hzl hcur hcs hown HD
        generalize (Builtin.zeroCells (Value.agg #[.int .i64 0, .int .u64 0]).cells (xs.length - i)).toList = seg at hcl HR2 HB2
        go_wp2
        go_ret
        exact ⟨_, rfl, by rw [← HF.out]; exact HR2.out, HB2.out⟩
set_option maxRecDepth 100000 in
theorem without1_uint64 (W : World) (x : S137) (B : Nat) (pl : Int) (hc : W.cell? ⟨B, 0, none⟩ = some (.int .u64 pl)) :
    Calls Try.prog 142 #[.agg #[.int .i64 x.f0, .int .u64 x.f1], .pointer (some ⟨B, 0, none⟩)] W fun e w' => e = .returned (.bool (x.f1 == pl)) ∧ Below W.heap.size W w' := by
  have hu := Try.underlying137
  have hB : B < W.heap.size := World.block_lt_of_cell? W ⟨B, 0, none⟩ hc
  have hc2 : (W.alloc (.cells #[.int .i64 x.f0, .int .u64 x.f1] 137)).cell? ⟨B, 0, none⟩ = some (.int .u64 pl) := ((below_alloc (Below.refl _ _) _).cell (p := ⟨B, 0, none⟩) hB).trans hc
  go_enter Try.func142, Try.ntmps142
  go_wp2
  go_ret
  exact ⟨rfl, (Below.refl _ _).alloc (Nat.le_refl _) _⟩
def pairs_Without_uint64.f (l0 : List S137) (a1 : Int) : Option (List S137) :=
  if l0.length < 8796093022208 then some (l0.filter (fun x => !(x.f1 == a1))) else none
set_option maxHeartbeats 2000000 in
set_option maxRecDepth 100000 in
theorem pairs_Without_uint64.calls (A0 : Option Addr) (c0 : Nat) (l0 : List S137) (a1 : Int) (r : List S137) (w : World) (hr0 : Kd.C k137 w A0 l0.length l0) (hc0 : l0.length ≤ c0) (h : pairs_Without_uint64.f l0 a1 = some r) :
    Calls Try.prog 114 #[.slice A0 l0.length c0, .int .u64 a1] w fun e w' => ∃ v0_ : Value, e = .returned (v0_) ∧ Kd.R k137 137 w' w.heap.size (fun _ => True) v0_ r ∧ Below w.heap.size w w' := by
  obtain ⟨hm, h2⟩ := of_ite_some h
  subst h2
  clear h
  have HC := Aside0.mk (slices_Clone_pairU.calls A0 c0 l0 l0 (w.alloc (.cells #[.int .u64 a1] 22)) (Kd.C_below hr0 (below_alloc (Below.refl _ _) _)) hc0 (by unfold slices_Clone_pairU.f; rw [if_pos hm]))
  have hp : PredP_uint64 142 #[.pointer (some ⟨w.heap.size, 0, none⟩)] (fun x => x.f1 == a1) (w.alloc (.cells #[.int .u64 a1] 22)) :=
    fun W x hb => without1_uint64 W x w.heap.size a1 ((hb.cell (p := ⟨w.heap.size, 0, none⟩) (by simp)).trans (by simp))
  have HD := Aside0.mk (fun w1 v ho hb => deleteFunc_uint64 142 #[.pointer (some ⟨w.heap.size, 0, none⟩)] (fun x => x.f1 == a1) (w.alloc (.cells #[.int .u64 a1] 22)) w1 v l0 ho hb hp (enters_of Try.func142 (by kernel_rfl) rfl))
  clear hp hm hr0 hc0
  go_enter Try.func114, Try.ntmps114
  go_wp2_with (first | (go_at_call 141; refine HC.out.mono ?_; rintro e w' ⟨v, rfl, ho, hb⟩; have HO := Aside0.mk ho; have HB := Aside0.mk hb; clear ho hb HC) | (go_at_call 140; refine (HD.out _ _ HO.out HB.out).mono ?_; rintro e w' ⟨v', rfl, ho, hb⟩; have HO2 := Aside0.mk ho; have HB2 := Aside0.mk hb; clear ho hb HD))
  go_ret
  refine ⟨_, rfl, Kd.R_lower HO2.out (by simp), below_then (below_alloc (Below.refl _ _) _) (by simp) HB2.out⟩
end Go.Proofs.Ytfbjjbbhnmoolaa.P
namespace Go.Proofs.Ytfbjjbbhnmoolaa.P
open Go.RowKit Go.Shelf Go.Proofs.YtfbjjbbhnmoolaaW.PrintWords Go.Proofs.YtfbjjbbhnmoolaaW.PrintLast Go.Proofs.YtfbjjbbhnmoolaaW.PrintMore
def some0U (l : List Pu) : List Pu := l.filter (fun x => !(x.f1 == 0))
def wfRowU (l : List Pu) : Prop := wfPus l ∧ l.length < 4398046511104
structure RowOKU (l : List Pu) : Prop where
  wf : wfRowU l
  len : l.length ≤ 4096
  cnt : ∀ p ∈ l, rightF p.f1 = true
  ups : Ups (fun p : Pu => p.f0) l
theorem RowOKU.nil : RowOKU [] := ⟨⟨fun s hs => by simp at hs, by simp⟩, by simp, fun s hs => by simp at hs, Ups.nil⟩
theorem zip_upsU : ∀ (ps v : List Int), ps.Pairwise (· < ·) → Ups (fun p : Pu => p.f0) (List.zipWith (fun p x => (⟨p, x⟩ : Pu)) ps v)
  | [], _, _ => by simp [Ups]
  | p :: ps, [], _ => by simp [Ups]
  | p :: ps, x :: v, h => by
    have h1 := List.pairwise_cons.1 h
    refine List.pairwise_cons.2 ⟨fun y hy => ?_, zip_upsU ps v h1.2⟩
    have : y.f0 ∈ ps := by
      obtain ⟨i, hi, rfl⟩ := List.mem_iff_getElem.1 hy
      simp only [List.getElem_zipWith]; exact List.getElem_mem _
    exact h1.1 _ this
theorem sideF_row {l : List Sp} {c : List Int} (hc : u64s c) : RowOKU (sideF l c).1 := by
  unfold sideF
  by_cases c1 : spCheck l = 0
  rotate_left
  · rw [if_neg c1]; exact RowOKU.nil
  rw [if_pos c1]
  by_cases c2 : cntN l = c.length
  rotate_left
  · rw [if_neg c2]; exact RowOKU.nil
  rw [if_pos c2]
  by_cases c3 : c.any (fun v => !rightF v) = true
  · rw [if_pos c3]; exact RowOKU.nil
  rw [if_neg c3]
  have hr := rises_of_right c1
  have hf : ∀ p ∈ List.zipWith (fun p x => (⟨p, x⟩ : Pu)) (plN 0 l) c, (-1048576 ≤ p.f0 ∧ p.f0 ≤ 1048576) ∧ p.f1 ∈ c := by
    intro y hy
    obtain ⟨i, hi, rfl⟩ := List.mem_iff_getElem.1 hy
    simp only [List.getElem_zipWith]
    exact ⟨rises_i64 hr _ (List.getElem_mem _), List.getElem_mem _⟩
  have hl : (List.zipWith (fun p x => (⟨p, x⟩ : Pu)) (plN 0 l) c).length ≤ 4096 := by have := places_len c1; simp; omega
  simp only
  refine ⟨⟨fun p hp => ?_, by omega⟩, hl, fun p hp => ?_, zip_upsU _ _ (rises_ups _ _ hr).1⟩
  · have h1 := hf p hp; have h2 := h1.1; exact ⟨⟨by omega, by omega⟩, hc _ h1.2⟩
  · have h1 := hf p hp
    cases hq : rightF p.f1 with
    | true => rfl
    | false => exact absurd (List.any_eq_true.2 ⟨_, h1.2, by rw [hq]; rfl⟩) c3
theorem openF_row {h : Fh} (hw : wfF h) : RowOKU (openF h).1 ∧ RowOKU (openF h).2.1 := by
  obtain ⟨-, -, -, -, -, -, -, h7, h8, -⟩ := hw
  have a := sideF_row (l := h.f5) h7
  have b := sideF_row (l := h.f6) h8
  unfold openF
  repeat' split
  all_goals first | exact ⟨a, b⟩ | exact ⟨RowOKU.nil, RowOKU.nil⟩
theorem withoutU_c (l : List Pu) (hl : l.length ≤ 4611686018427) (w : World) (v : Value) (hv : SI kPu w v l) : Calls Try.prog 114 #[v, .int .u64 0] w fun e w' =>
    ∃ v', e = .returned v' ∧ SI kPu w' v' (some0U l) ∧ Below w.heap.size w w' := by
  obtain ⟨A, c, rfl, hc, hr⟩ := hv
  refine (pairs_Without_uint64.calls A c l 0 (some0U l) w hr hc (if_pos (by omega))).mono ?_
  rintro e w1 ⟨v0, rfl, h0, hb⟩
  exact ⟨v0, rfl, .of_R h0, hb⟩
theorem some0U_wf {l : List Pu} (h : wfRowU l) : wfRowU (some0U l) := ⟨fun s hs => h.1 s (List.mem_filter.1 hs).1, Nat.lt_of_le_of_lt (List.length_filter_le _ _) h.2⟩
end Go.Proofs.Ytfbjjbbhnmoolaa.P
namespace Go.Proofs.Ytfbjjbbhnmoolaa.P
open Go.RowKit Go.Shelf Go.Proofs.YtfbjjbbhnmoolaaW.PrintWords Go.Proofs.YtfbjjbbhnmoolaaW.PrintLast Go.Proofs.YtfbjjbbhnmoolaaW.PrintMore
theorem unzipU_c (l : List Pu) (hw : wfRowU l) (w : World) (v : Value) (hv : SI kPu w v l) : Calls Try.prog 115 #[v] w fun e w' =>
    ∃ v0 v1 : Value, e = .returned (.tuple #[v0, v1, .int .i64 (unzipResU l).2.2]) ∧ FI kSp w.heap.size w' v0 (unzipResU l).1 ∧ FI (Kd.int .u64) w.heap.size w' v1 (unzipResU l).2.1 ∧ Below w.heap.size w w' := by
  obtain ⟨A, c, rfl, hc, hr⟩ := hv
  refine (pairs_Unzip_uint64.calls (3 * l.length + 2) A c l (unzipResU l).1 (unzipResU l).2.1 (unzipResU l).2.2 w hr hc (unzipU_eq l hw.1 hw.2 _ (by omega))).mono ?_
  rintro e w1 ⟨v0, v1, rfl, h0, h1, hb⟩
  exact ⟨v0, v1, rfl, .of_R h0 (Nat.le_refl _), .of_R h1 (Nat.le_refl _), hb⟩
theorem unzipResU_wf {l : List Pu} (hw : wfRowU l) : wfSps (unzipResU l).1 ∧ u64s (unzipResU l).2.1 ∧ (unzipResU l).2.1.length < 4398046511104 := by
  unfold unzipResU
  by_cases h : (fromRes (l.map (·.f0))).2 = 0
  · rw [if_pos h]
    obtain ⟨hr, hl, hl2, he⟩ := fromRes_ok h
    refine ⟨by rw [he]; exact spansOf_wf hr hl, fun x hx => ?_, by simpa using hw.2⟩
    obtain ⟨p, hp, rfl⟩ := List.mem_map.1 hx
    exact (hw.1 p hp).2
  · rw [if_neg h]; exact ⟨fun s hs => by simp at hs, fun s hs => by simp at hs, by simp⟩
def madeF (h : Fh) (p n : List Pu) : Fh := ⟨h.f0, h.f1, h.f2, h.f3, h.f4, (unzipResU p).1, (unzipResU n).1, (unzipResU p).2.1, (unzipResU n).2.1⟩
def makeF (h : Fh) (p n : List Pu) : Fh × Int := if (unzipResU p).2.2 ≠ 0 then (emptyF, (unzipResU p).2.2) else if (unzipResU n).2.2 ≠ 0 then (emptyF, (unzipResU n).2.2) else if checkF (madeF h p n) ≠ 0 then (emptyF, checkF (madeF h p n)) else (madeF h p n, 0)
theorem madeF_wf {h : Fh} {p n : List Pu} (hw : wfF h) (hp : wfRowU p) (hn : wfRowU n) : wfF (madeF h p n) := by
  obtain ⟨a0, a1, a2, a3, a4, -⟩ := hw
  exact ⟨a0, a1, a2, a3, a4, (unzipResU_wf hp).1, (unzipResU_wf hn).1, (unzipResU_wf hp).2.1, (unzipResU_wf hn).2.1, (unzipResU_wf hp).2.2, (unzipResU_wf hn).2.2⟩
set_option maxHeartbeats 8000000 in
set_option maxRecDepth 100000 in
theorem fmake_n (h : Fh) (p n : List Pu) (hw : wfF (madeF h p n)) (hp : wfRowU p) (hn : wfRowU n) (w : World) (v vp vn : Value) (hv : GI w v h) (hvp : SI kPu w vp p) (hvn : SI kPu w vn n) : Calls Try.prog 88 #[v, vp, vn] w fun e w' =>
    ∃ v', e = .returned (.tuple #[v', .int .i64 (makeF h p n).2]) ∧ GF w.heap.size w' v' (makeF h p n).1 ∧ Below w.heap.size w w' := by
  have hu := Try.underlying31
  obtain ⟨A5, c5, A6, c6, A7, c7, A8, c8, e, -⟩ := hv.open_
  subst e
  have HP := Aside0.mk hvp
  have HN := Aside0.mk hvn
  have HW := Aside0.mk hw
  have HC1 := fun w hv => unzipU_c p hp w vp hv
  have HC2 := fun w hv => unzipU_c n hn w vn hv
  clear hv hvp hvn hw hp hn
  unfold makeF madeF at *
  generalize unzipResU p = lp at *
  generalize unzipResU n = ln at *
  obtain ⟨sp, dp, ep⟩ := lp
  obtain ⟨sn, dn, en⟩ := ln
  simp only at HW HC1 HC2 ⊢
  replace HC1 := Aside0.mk HC1
  replace HC2 := Aside0.mk HC2
  by_cases c1 : ep = 0
  rotate_left
  · rw [if_pos c1]
    have c1a : (ep != 0) = true := bne_iff_ne.2 c1
    clear c1
    go_enter Try.func88, Try.ntmps88
    go_wp2_with (first | (go_at_call 115; (with_reducible refine (HC1.out _ (HP.out.below (below_alloc (below_alloc (Below.refl _ _) _) _))).mono ?_); rintro e w1 ⟨v0, v1, rfl, h0, h1, hb⟩; obtain ⟨B0, d0, rfl⟩ := h0.slice; obtain ⟨B1, d1, rfl⟩ := h1.slice; have HF0 := Aside0.mk (show FI kSp (w.heap.size + 1 + 1) w1 (.slice B0 sp.length d0) sp by simpa using h0); have HF1 := Aside0.mk (show FI (Kd.int .u64) (w.heap.size + 1 + 1) w1 (.slice B1 dp.length d1) dp by simpa using h1); have HB1 := Aside0.mk (below_then (below_alloc (below_alloc (Below.refl w.heap.size w) (.cells #[.int .i64 h.f0, .int .u64 h.f1, .int .u64 h.f2, .int .u64 h.f3, .int .u64 h.f4, .slice A5 h.f5.length c5, .slice A6 h.f6.length c6, .slice A7 h.f7.length c7, .slice A8 h.f8.length c8] 31)) (.cells #[.int .i64 0, .int .u64 0, .int .u64 0, .int .u64 0, .int .u64 0, .slice none 0 0, .slice none 0 0, .slice none 0 0, .slice none 0 0] 31)) (by simp; omega) hb); have HX1 := Aside0.mk (blk_below (blk_alloc (blk_new w (.cells #[.int .i64 h.f0, .int .u64 h.f1, .int .u64 h.f2, .int .u64 h.f3, .int .u64 h.f4, .slice A5 h.f5.length c5, .slice A6 h.f6.length c6, .slice A7 h.f7.length c7, .slice A8 h.f8.length c8] 31)) (.cells #[.int .i64 0, .int .u64 0, .int .u64 0, .int .u64 0, .int .u64 0, .slice none 0 0, .slice none 0 0, .slice none 0 0, .slice none 0 0] 31)) hb); have HY1 := Aside0.mk (show w1.heap[w.heap.size + 1]? = some (.cells #[.int .i64 0, .int .u64 0, .int .u64 0, .int .u64 0, .int .u64 0, .slice none 0 0, .slice none 0 0, .slice none 0 0, .slice none 0 0] 31 (0, 0)) from (blk_below (show ((w.alloc (.cells #[.int .i64 h.f0, .int .u64 h.f1, .int .u64 h.f2, .int .u64 h.f3, .int .u64 h.f4, .slice A5 h.f5.length c5, .slice A6 h.f6.length c6, .slice A7 h.f7.length c7, .slice A8 h.f8.length c8] 31)).alloc (.cells #[.int .i64 0, .int .u64 0, .int .u64 0, .int .u64 0, .int .u64 0, .slice none 0 0, .slice none 0 0, .slice none 0 0, .slice none 0 0] 31)).heap[w.heap.size + 1]? = _ by simpa using blk_new (w.alloc (.cells #[.int .i64 h.f0, .int .u64 h.f1, .int .u64 h.f2, .int .u64 h.f3, .int .u64 h.f4, .slice A5 h.f5.length c5, .slice A6 h.f6.length c6, .slice A7 h.f7.length c7, .slice A8 h.f8.length c8] 31)) (.cells #[.int .i64 0, .int .u64 0, .int .u64 0, .int .u64 0, .int .u64 0, .slice none 0 0, .slice none 0 0, .slice none 0 0, .slice none 0 0] 31)) hb)); have hfx := fun i => blk_cell HX1.out i; have hzx := fun i => blk_frozen HX1.out i; have hfy := fun i => blk_cell HY1.out i; have hzy := fun i => blk_frozen HY1.out i; clear h0 h1 hb))
    refine bodyPost_ret (results_ct rfl _ _ (w.heap.size + 1) 31 #[.int .i64 0, .int .u64 0, .int .u64 0, .int .u64 0, .int .u64 0, .slice none 0 0, .slice none 0 0, .slice none 0 0, .slice none 0 0] (0, 0) _ rfl (nine (blk_far (blk_far HY1.out (by show w.heap.size + 1 ≠ w.heap.size; omega) _) (by show w.heap.size + 1 ≠ w.heap.size; omega) _) _ _ _ _ _ _ _ _ _) Try.underlying31 rfl (by kernel_rfl)) rfl ?_
    exact ⟨_, rfl, GF.empty _ _, nine_below (belowS HB1.out.size HB1.out) (by omega) _ _ _ _ _ _ _ _ _⟩
  subst c1
  rw [if_neg (by simp)]
  by_cases c2 : en = 0
  rotate_left
  · rw [if_pos c2]
    have c2a : (en != 0) = true := bne_iff_ne.2 c2
    clear c2
    go_enter Try.func88, Try.ntmps88
    go_wp2_with (first | (go_at_call 115; (with_reducible refine (HC1.out _ (HP.out.below (below_alloc (below_alloc (Below.refl _ _) _) _))).mono ?_); rintro e w1 ⟨v0, v1, rfl, h0, h1, hb⟩; obtain ⟨B0, d0, rfl⟩ := h0.slice; obtain ⟨B1, d1, rfl⟩ := h1.slice; have HF0 := Aside0.mk (show FI kSp (w.heap.size + 1 + 1) w1 (.slice B0 sp.length d0) sp by simpa using h0); have HF1 := Aside0.mk (show FI (Kd.int .u64) (w.heap.size + 1 + 1) w1 (.slice B1 dp.length d1) dp by simpa using h1); have HB1 := Aside0.mk (below_then (below_alloc (below_alloc (Below.refl w.heap.size w) (.cells #[.int .i64 h.f0, .int .u64 h.f1, .int .u64 h.f2, .int .u64 h.f3, .int .u64 h.f4, .slice A5 h.f5.length c5, .slice A6 h.f6.length c6, .slice A7 h.f7.length c7, .slice A8 h.f8.length c8] 31)) (.cells #[.int .i64 0, .int .u64 0, .int .u64 0, .int .u64 0, .int .u64 0, .slice none 0 0, .slice none 0 0, .slice none 0 0, .slice none 0 0] 31)) (by simp; omega) hb); have HX1 := Aside0.mk (blk_below (blk_alloc (blk_new w (.cells #[.int .i64 h.f0, .int .u64 h.f1, .int .u64 h.f2, .int .u64 h.f3, .int .u64 h.f4, .slice A5 h.f5.length c5, .slice A6 h.f6.length c6, .slice A7 h.f7.length c7, .slice A8 h.f8.length c8] 31)) (.cells #[.int .i64 0, .int .u64 0, .int .u64 0, .int .u64 0, .int .u64 0, .slice none 0 0, .slice none 0 0, .slice none 0 0, .slice none 0 0] 31)) hb); have HY1 := Aside0.mk (show w1.heap[w.heap.size + 1]? = some (.cells #[.int .i64 0, .int .u64 0, .int .u64 0, .int .u64 0, .int .u64 0, .slice none 0 0, .slice none 0 0, .slice none 0 0, .slice none 0 0] 31 (0, 0)) from (blk_below (show ((w.alloc (.cells #[.int .i64 h.f0, .int .u64 h.f1, .int .u64 h.f2, .int .u64 h.f3, .int .u64 h.f4, .slice A5 h.f5.length c5, .slice A6 h.f6.length c6, .slice A7 h.f7.length c7, .slice A8 h.f8.length c8] 31)).alloc (.cells #[.int .i64 0, .int .u64 0, .int .u64 0, .int .u64 0, .int .u64 0, .slice none 0 0, .slice none 0 0, .slice none 0 0, .slice none 0 0] 31)).heap[w.heap.size + 1]? = _ by simpa using blk_new (w.alloc (.cells #[.int .i64 h.f0, .int .u64 h.f1, .int .u64 h.f2, .int .u64 h.f3, .int .u64 h.f4, .slice A5 h.f5.length c5, .slice A6 h.f6.length c6, .slice A7 h.f7.length c7, .slice A8 h.f8.length c8] 31)) (.cells #[.int .i64 0, .int .u64 0, .int .u64 0, .int .u64 0, .int .u64 0, .slice none 0 0, .slice none 0 0, .slice none 0 0, .slice none 0 0] 31)) hb)); have hfx := fun i => blk_cell HX1.out i; have hzx := fun i => blk_frozen HX1.out i; have hfy := fun i => blk_cell HY1.out i; have hzy := fun i => blk_frozen HY1.out i; clear h0 h1 hb) | (go_at_call 115; (with_reducible refine (HC2.out _ (HN.out.below (belowS (HB1.out.size) HB1.out))).mono ?_); rintro e w3 ⟨v2, v3, rfl, h2, h3, hb⟩; obtain ⟨B2, d2, rfl⟩ := h2.slice; obtain ⟨B3, d3, rfl⟩ := h3.slice; have HS2 := Aside0.mk (show w.heap.size + 1 + 1 ≤ w1.heap.size from by have := blk_lt HY1.out; omega); have HF2 := Aside0.mk (show FI kSp (w.heap.size + 1 + 1) w3 (.slice B2 sn.length d2) sn from FI.lower h2 (by have := HS2.out; simpa [World.setCell] using this)); have HF3 := Aside0.mk (show FI (Kd.int .u64) (w.heap.size + 1 + 1) w3 (.slice B3 dn.length d3) dn from FI.lower h3 (by have := HS2.out; simpa [World.setCell] using this)); have HK3 := Aside0.mk (show KA (w.heap.size + 1 + 1) w1 w3 from ((KA.set _ (by omega) _).trans (KA.set _ (by omega) _)).trans (KA.below hb)); have HB3 := Aside0.mk (below_then (belowS (HB1.out.size) HB1.out) (by have := HB1.out.size; simpa [World.setCell] using this) hb); have HX3 := Aside0.mk (blk_below (show ((w1.setCell ⟨w.heap.size, 5, none⟩ (.slice B0 sp.length d0)).setCell ⟨w.heap.size, 7, none⟩ (.slice B1 dp.length d1)).heap[w.heap.size]? = some (.cells #[.int .i64 h.f0, .int .u64 h.f1, .int .u64 h.f2, .int .u64 h.f3, .int .u64 h.f4, .slice B0 sp.length d0, .slice A6 h.f6.length c6, .slice B1 dp.length d1, .slice A8 h.f8.length c8] 31 (0, 0)) from blk_put (blk_put HX1.out 5 _ rfl) 7 _ rfl) hb); have HY3 := Aside0.mk (blk_below (show ((w1.setCell ⟨w.heap.size, 5, none⟩ (.slice B0 sp.length d0)).setCell ⟨w.heap.size, 7, none⟩ (.slice B1 dp.length d1)).heap[w.heap.size + 1]? = some (.cells #[.int .i64 0, .int .u64 0, .int .u64 0, .int .u64 0, .int .u64 0, .slice none 0 0, .slice none 0 0, .slice none 0 0, .slice none 0 0] 31 (0, 0)) from blk_far (blk_far HY1.out (by show w.heap.size + 1 ≠ w.heap.size; omega) _) (by show w.heap.size + 1 ≠ w.heap.size; omega) _) hb); clear hfx hzx hfy hzy; have hfx := fun i => blk_cell HX3.out i; have hzx := fun i => blk_frozen HX3.out i; have hfy := fun i => blk_cell HY3.out i; have hzy := fun i => blk_frozen HY3.out i; clear h2 h3 hb))
    refine bodyPost_ret (results_ct rfl _ _ (w.heap.size + 1) 31 #[.int .i64 0, .int .u64 0, .int .u64 0, .int .u64 0, .int .u64 0, .slice none 0 0, .slice none 0 0, .slice none 0 0, .slice none 0 0] (0, 0) _ rfl (nine (blk_far (blk_far HY3.out (by show w.heap.size + 1 ≠ w.heap.size; omega) _) (by show w.heap.size + 1 ≠ w.heap.size; omega) _) _ _ _ _ _ _ _ _ _) Try.underlying31 rfl (by kernel_rfl)) rfl ?_
    exact ⟨_, rfl, GF.empty _ _, nine_below (belowS HB3.out.size HB3.out) (by omega) _ _ _ _ _ _ _ _ _⟩
  subst c2
  rw [if_neg (by simp)]
  have hck : ∀ w v5 v6 v7 v8, SI kSp w v5 sp → SI kSp w v6 sn → SI (Kd.int .u64) w v7 dp → SI (Kd.int .u64) w v8 dn → Calls Try.prog 87 #[.agg #[.int .i64 h.f0, .int .u64 h.f1, .int .u64 h.f2, .int .u64 h.f3, .int .u64 h.f4, v5, v6, v7, v8]] w fun e w' => e = .returned (.int .i64 (checkF ⟨h.f0, h.f1, h.f2, h.f3, h.f4, sp, sn, dp, dn⟩)) ∧ Below w.heap.size w w' :=
    fun w v5 v6 v7 v8 h5 h6 h7 h8 => fcheck_c _ HW.out w _ (GI.mk (h := ⟨h.f0, h.f1, h.f2, h.f3, h.f4, sp, sn, dp, dn⟩) h5 h6 h7 h8)
  generalize checkF ⟨h.f0, h.f1, h.f2, h.f3, h.f4, sp, sn, dp, dn⟩ = ec at hck ⊢
  have HCK := Aside0.mk hck
  clear hck
  by_cases c3 : ec = 0
  rotate_left
  · rw [if_pos c3]
    have c3a : (ec != 0) = true := bne_iff_ne.2 c3
    clear c3
    go_enter Try.func88, Try.ntmps88
    go_wp2_with (first | (go_at_call 115; (with_reducible refine (HC1.out _ (HP.out.below (below_alloc (below_alloc (Below.refl _ _) _) _))).mono ?_); rintro e w1 ⟨v0, v1, rfl, h0, h1, hb⟩; obtain ⟨B0, d0, rfl⟩ := h0.slice; obtain ⟨B1, d1, rfl⟩ := h1.slice; have HF0 := Aside0.mk (show FI kSp (w.heap.size + 1 + 1) w1 (.slice B0 sp.length d0) sp by simpa using h0); have HF1 := Aside0.mk (show FI (Kd.int .u64) (w.heap.size + 1 + 1) w1 (.slice B1 dp.length d1) dp by simpa using h1); have HB1 := Aside0.mk (below_then (below_alloc (below_alloc (Below.refl w.heap.size w) (.cells #[.int .i64 h.f0, .int .u64 h.f1, .int .u64 h.f2, .int .u64 h.f3, .int .u64 h.f4, .slice A5 h.f5.length c5, .slice A6 h.f6.length c6, .slice A7 h.f7.length c7, .slice A8 h.f8.length c8] 31)) (.cells #[.int .i64 0, .int .u64 0, .int .u64 0, .int .u64 0, .int .u64 0, .slice none 0 0, .slice none 0 0, .slice none 0 0, .slice none 0 0] 31)) (by simp; omega) hb); have HX1 := Aside0.mk (blk_below (blk_alloc (blk_new w (.cells #[.int .i64 h.f0, .int .u64 h.f1, .int .u64 h.f2, .int .u64 h.f3, .int .u64 h.f4, .slice A5 h.f5.length c5, .slice A6 h.f6.length c6, .slice A7 h.f7.length c7, .slice A8 h.f8.length c8] 31)) (.cells #[.int .i64 0, .int .u64 0, .int .u64 0, .int .u64 0, .int .u64 0, .slice none 0 0, .slice none 0 0, .slice none 0 0, .slice none 0 0] 31)) hb); have HY1 := Aside0.mk (show w1.heap[w.heap.size + 1]? = some (.cells #[.int .i64 0, .int .u64 0, .int .u64 0, .int .u64 0, .int .u64 0, .slice none 0 0, .slice none 0 0, .slice none 0 0, .slice none 0 0] 31 (0, 0)) from (blk_below (show ((w.alloc (.cells #[.int .i64 h.f0, .int .u64 h.f1, .int .u64 h.f2, .int .u64 h.f3, .int .u64 h.f4, .slice A5 h.f5.length c5, .slice A6 h.f6.length c6, .slice A7 h.f7.length c7, .slice A8 h.f8.length c8] 31)).alloc (.cells #[.int .i64 0, .int .u64 0, .int .u64 0, .int .u64 0, .int .u64 0, .slice none 0 0, .slice none 0 0, .slice none 0 0, .slice none 0 0] 31)).heap[w.heap.size + 1]? = _ by simpa using blk_new (w.alloc (.cells #[.int .i64 h.f0, .int .u64 h.f1, .int .u64 h.f2, .int .u64 h.f3, .int .u64 h.f4, .slice A5 h.f5.length c5, .slice A6 h.f6.length c6, .slice A7 h.f7.length c7, .slice A8 h.f8.length c8] 31)) (.cells #[.int .i64 0, .int .u64 0, .int .u64 0, .int .u64 0, .int .u64 0, .slice none 0 0, .slice none 0 0, .slice none 0 0, .slice none 0 0] 31)) hb)); have hfx := fun i => blk_cell HX1.out i; have hzx := fun i => blk_frozen HX1.out i; have hfy := fun i => blk_cell HY1.out i; have hzy := fun i => blk_frozen HY1.out i; clear h0 h1 hb) | (go_at_call 115; (with_reducible refine (HC2.out _ (HN.out.below (belowS (HB1.out.size) HB1.out))).mono ?_); rintro e w3 ⟨v2, v3, rfl, h2, h3, hb⟩; obtain ⟨B2, d2, rfl⟩ := h2.slice; obtain ⟨B3, d3, rfl⟩ := h3.slice; have HS2 := Aside0.mk (show w.heap.size + 1 + 1 ≤ w1.heap.size from by have := blk_lt HY1.out; omega); have HF2 := Aside0.mk (show FI kSp (w.heap.size + 1 + 1) w3 (.slice B2 sn.length d2) sn from FI.lower h2 (by have := HS2.out; simpa [World.setCell] using this)); have HF3 := Aside0.mk (show FI (Kd.int .u64) (w.heap.size + 1 + 1) w3 (.slice B3 dn.length d3) dn from FI.lower h3 (by have := HS2.out; simpa [World.setCell] using this)); have HK3 := Aside0.mk (show KA (w.heap.size + 1 + 1) w1 w3 from ((KA.set _ (by omega) _).trans (KA.set _ (by omega) _)).trans (KA.below hb)); have HB3 := Aside0.mk (below_then (belowS (HB1.out.size) HB1.out) (by have := HB1.out.size; simpa [World.setCell] using this) hb); have HX3 := Aside0.mk (blk_below (show ((w1.setCell ⟨w.heap.size, 5, none⟩ (.slice B0 sp.length d0)).setCell ⟨w.heap.size, 7, none⟩ (.slice B1 dp.length d1)).heap[w.heap.size]? = some (.cells #[.int .i64 h.f0, .int .u64 h.f1, .int .u64 h.f2, .int .u64 h.f3, .int .u64 h.f4, .slice B0 sp.length d0, .slice A6 h.f6.length c6, .slice B1 dp.length d1, .slice A8 h.f8.length c8] 31 (0, 0)) from blk_put (blk_put HX1.out 5 _ rfl) 7 _ rfl) hb); have HY3 := Aside0.mk (blk_below (show ((w1.setCell ⟨w.heap.size, 5, none⟩ (.slice B0 sp.length d0)).setCell ⟨w.heap.size, 7, none⟩ (.slice B1 dp.length d1)).heap[w.heap.size + 1]? = some (.cells #[.int .i64 0, .int .u64 0, .int .u64 0, .int .u64 0, .int .u64 0, .slice none 0 0, .slice none 0 0, .slice none 0 0, .slice none 0 0] 31 (0, 0)) from blk_far (blk_far HY1.out (by show w.heap.size + 1 ≠ w.heap.size; omega) _) (by show w.heap.size + 1 ≠ w.heap.size; omega) _) hb); clear hfx hzx hfy hzy; have hfx := fun i => blk_cell HX3.out i; have hzx := fun i => blk_frozen HX3.out i; have hfy := fun i => blk_cell HY3.out i; have hzy := fun i => blk_frozen HY3.out i; clear h2 h3 hb) | (go_at_call 87; (with_reducible refine (HCK.out _ _ _ _ _ (HF0.out.at_ (HK3.out.trans ((KA.set _ (by omega) _).trans (KA.set _ (by omega) _)))) (HF2.out.at_ ((KA.set _ (by omega) _).trans (KA.set _ (by omega) _))) (HF1.out.at_ (HK3.out.trans ((KA.set _ (by omega) _).trans (KA.set _ (by omega) _)))) (HF3.out.at_ ((KA.set _ (by omega) _).trans (KA.set _ (by omega) _)))).mono ?_); rintro e w5 ⟨rfl, hb⟩; have HK5 := Aside0.mk (show KA (w.heap.size + 1 + 1) w3 w5 from ((KA.set _ (by omega) _).trans (KA.set _ (by omega) _)).trans (KA.below hb)); have HB5 := Aside0.mk (below_then (belowS (HB3.out.size) HB3.out) (by have := HB3.out.size; simpa [World.setCell] using this) hb); have HX5 := Aside0.mk (blk_below (show ((w3.setCell ⟨w.heap.size, 6, none⟩ (.slice B2 sn.length d2)).setCell ⟨w.heap.size, 8, none⟩ (.slice B3 dn.length d3)).heap[w.heap.size]? = some (.cells #[.int .i64 h.f0, .int .u64 h.f1, .int .u64 h.f2, .int .u64 h.f3, .int .u64 h.f4, .slice B0 sp.length d0, .slice B2 sn.length d2, .slice B1 dp.length d1, .slice B3 dn.length d3] 31 (0, 0)) from blk_put (blk_put HX3.out 6 _ rfl) 8 _ rfl) hb); have HY5 := Aside0.mk (blk_below (show ((w3.setCell ⟨w.heap.size, 6, none⟩ (.slice B2 sn.length d2)).setCell ⟨w.heap.size, 8, none⟩ (.slice B3 dn.length d3)).heap[w.heap.size + 1]? = some (.cells #[.int .i64 0, .int .u64 0, .int .u64 0, .int .u64 0, .int .u64 0, .slice none 0 0, .slice none 0 0, .slice none 0 0, .slice none 0 0] 31 (0, 0)) from blk_far (blk_far HY3.out (by show w.heap.size + 1 ≠ w.heap.size; omega) _) (by show w.heap.size + 1 ≠ w.heap.size; omega) _) hb); clear hfx hzx hfy hzy; have hfx := fun i => blk_cell HX5.out i; have hzx := fun i => blk_frozen HX5.out i; have hfy := fun i => blk_cell HY5.out i; have hzy := fun i => blk_frozen HY5.out i; clear hb))
    refine bodyPost_ret (results_ct rfl _ _ (w.heap.size + 1) 31 #[.int .i64 0, .int .u64 0, .int .u64 0, .int .u64 0, .int .u64 0, .slice none 0 0, .slice none 0 0, .slice none 0 0, .slice none 0 0] (0, 0) _ rfl (nine (HY5.out) _ _ _ _ _ _ _ _ _) Try.underlying31 rfl (by kernel_rfl)) rfl ?_
    exact ⟨_, rfl, GF.empty _ _, nine_below HB5.out (by omega) _ _ _ _ _ _ _ _ _⟩
  subst c3
  rw [if_neg (by simp)]
  go_enter Try.func88, Try.ntmps88
  go_wp2_with (first | (go_at_call 115; (with_reducible refine (HC1.out _ (HP.out.below (below_alloc (below_alloc (Below.refl _ _) _) _))).mono ?_); rintro e w1 ⟨v0, v1, rfl, h0, h1, hb⟩; obtain ⟨B0, d0, rfl⟩ := h0.slice; obtain ⟨B1, d1, rfl⟩ := h1.slice; have HF0 := Aside0.mk (show FI kSp (w.heap.size + 1 + 1) w1 (.slice B0 sp.length d0) sp by simpa using h0); have HF1 := Aside0.mk (show FI (Kd.int .u64) (w.heap.size + 1 + 1) w1 (.slice B1 dp.length d1) dp by simpa using h1); have HB1 := Aside0.mk (below_then (below_alloc (below_alloc (Below.refl w.heap.size w) (.cells #[.int .i64 h.f0, .int .u64 h.f1, .int .u64 h.f2, .int .u64 h.f3, .int .u64 h.f4, .slice A5 h.f5.length c5, .slice A6 h.f6.length c6, .slice A7 h.f7.length c7, .slice A8 h.f8.length c8] 31)) (.cells #[.int .i64 0, .int .u64 0, .int .u64 0, .int .u64 0, .int .u64 0, .slice none 0 0, .slice none 0 0, .slice none 0 0, .slice none 0 0] 31)) (by simp; omega) hb); have HX1 := Aside0.mk (blk_below (blk_alloc (blk_new w (.cells #[.int .i64 h.f0, .int .u64 h.f1, .int .u64 h.f2, .int .u64 h.f3, .int .u64 h.f4, .slice A5 h.f5.length c5, .slice A6 h.f6.length c6, .slice A7 h.f7.length c7, .slice A8 h.f8.length c8] 31)) (.cells #[.int .i64 0, .int .u64 0, .int .u64 0, .int .u64 0, .int .u64 0, .slice none 0 0, .slice none 0 0, .slice none 0 0, .slice none 0 0] 31)) hb); have HY1 := Aside0.mk (show w1.heap[w.heap.size + 1]? = some (.cells #[.int .i64 0, .int .u64 0, .int .u64 0, .int .u64 0, .int .u64 0, .slice none 0 0, .slice none 0 0, .slice none 0 0, .slice none 0 0] 31 (0, 0)) from (blk_below (show ((w.alloc (.cells #[.int .i64 h.f0, .int .u64 h.f1, .int .u64 h.f2, .int .u64 h.f3, .int .u64 h.f4, .slice A5 h.f5.length c5, .slice A6 h.f6.length c6, .slice A7 h.f7.length c7, .slice A8 h.f8.length c8] 31)).alloc (.cells #[.int .i64 0, .int .u64 0, .int .u64 0, .int .u64 0, .int .u64 0, .slice none 0 0, .slice none 0 0, .slice none 0 0, .slice none 0 0] 31)).heap[w.heap.size + 1]? = _ by simpa using blk_new (w.alloc (.cells #[.int .i64 h.f0, .int .u64 h.f1, .int .u64 h.f2, .int .u64 h.f3, .int .u64 h.f4, .slice A5 h.f5.length c5, .slice A6 h.f6.length c6, .slice A7 h.f7.length c7, .slice A8 h.f8.length c8] 31)) (.cells #[.int .i64 0, .int .u64 0, .int .u64 0, .int .u64 0, .int .u64 0, .slice none 0 0, .slice none 0 0, .slice none 0 0, .slice none 0 0] 31)) hb)); have hfx := fun i => blk_cell HX1.out i; have hzx := fun i => blk_frozen HX1.out i; have hfy := fun i => blk_cell HY1.out i; have hzy := fun i => blk_frozen HY1.out i; clear h0 h1 hb) | (go_at_call 115; (with_reducible refine (HC2.out _ (HN.out.below (belowS (HB1.out.size) HB1.out))).mono ?_); rintro e w3 ⟨v2, v3, rfl, h2, h3, hb⟩; obtain ⟨B2, d2, rfl⟩ := h2.slice; obtain ⟨B3, d3, rfl⟩ := h3.slice; have HS2 := Aside0.mk (show w.heap.size + 1 + 1 ≤ w1.heap.size from by have := blk_lt HY1.out; omega); have HF2 := Aside0.mk (show FI kSp (w.heap.size + 1 + 1) w3 (.slice B2 sn.length d2) sn from FI.lower h2 (by have := HS2.out; simpa [World.setCell] using this)); have HF3 := Aside0.mk (show FI (Kd.int .u64) (w.heap.size + 1 + 1) w3 (.slice B3 dn.length d3) dn from FI.lower h3 (by have := HS2.out; simpa [World.setCell] using this)); have HK3 := Aside0.mk (show KA (w.heap.size + 1 + 1) w1 w3 from ((KA.set _ (by omega) _).trans (KA.set _ (by omega) _)).trans (KA.below hb)); have HB3 := Aside0.mk (below_then (belowS (HB1.out.size) HB1.out) (by have := HB1.out.size; simpa [World.setCell] using this) hb); have HX3 := Aside0.mk (blk_below (show ((w1.setCell ⟨w.heap.size, 5, none⟩ (.slice B0 sp.length d0)).setCell ⟨w.heap.size, 7, none⟩ (.slice B1 dp.length d1)).heap[w.heap.size]? = some (.cells #[.int .i64 h.f0, .int .u64 h.f1, .int .u64 h.f2, .int .u64 h.f3, .int .u64 h.f4, .slice B0 sp.length d0, .slice A6 h.f6.length c6, .slice B1 dp.length d1, .slice A8 h.f8.length c8] 31 (0, 0)) from blk_put (blk_put HX1.out 5 _ rfl) 7 _ rfl) hb); have HY3 := Aside0.mk (blk_below (show ((w1.setCell ⟨w.heap.size, 5, none⟩ (.slice B0 sp.length d0)).setCell ⟨w.heap.size, 7, none⟩ (.slice B1 dp.length d1)).heap[w.heap.size + 1]? = some (.cells #[.int .i64 0, .int .u64 0, .int .u64 0, .int .u64 0, .int .u64 0, .slice none 0 0, .slice none 0 0, .slice none 0 0, .slice none 0 0] 31 (0, 0)) from blk_far (blk_far HY1.out (by show w.heap.size + 1 ≠ w.heap.size; omega) _) (by show w.heap.size + 1 ≠ w.heap.size; omega) _) hb); clear hfx hzx hfy hzy; have hfx := fun i => blk_cell HX3.out i; have hzx := fun i => blk_frozen HX3.out i; have hfy := fun i => blk_cell HY3.out i; have hzy := fun i => blk_frozen HY3.out i; clear h2 h3 hb) | (go_at_call 87; (with_reducible refine (HCK.out _ _ _ _ _ (HF0.out.at_ (HK3.out.trans ((KA.set _ (by omega) _).trans (KA.set _ (by omega) _)))) (HF2.out.at_ ((KA.set _ (by omega) _).trans (KA.set _ (by omega) _))) (HF1.out.at_ (HK3.out.trans ((KA.set _ (by omega) _).trans (KA.set _ (by omega) _)))) (HF3.out.at_ ((KA.set _ (by omega) _).trans (KA.set _ (by omega) _)))).mono ?_); rintro e w5 ⟨rfl, hb⟩; have HK5 := Aside0.mk (show KA (w.heap.size + 1 + 1) w3 w5 from ((KA.set _ (by omega) _).trans (KA.set _ (by omega) _)).trans (KA.below hb)); have HB5 := Aside0.mk (below_then (belowS (HB3.out.size) HB3.out) (by have := HB3.out.size; simpa [World.setCell] using this) hb); have HX5 := Aside0.mk (blk_below (show ((w3.setCell ⟨w.heap.size, 6, none⟩ (.slice B2 sn.length d2)).setCell ⟨w.heap.size, 8, none⟩ (.slice B3 dn.length d3)).heap[w.heap.size]? = some (.cells #[.int .i64 h.f0, .int .u64 h.f1, .int .u64 h.f2, .int .u64 h.f3, .int .u64 h.f4, .slice B0 sp.length d0, .slice B2 sn.length d2, .slice B1 dp.length d1, .slice B3 dn.length d3] 31 (0, 0)) from blk_put (blk_put HX3.out 6 _ rfl) 8 _ rfl) hb); have HY5 := Aside0.mk (blk_below (show ((w3.setCell ⟨w.heap.size, 6, none⟩ (.slice B2 sn.length d2)).setCell ⟨w.heap.size, 8, none⟩ (.slice B3 dn.length d3)).heap[w.heap.size + 1]? = some (.cells #[.int .i64 0, .int .u64 0, .int .u64 0, .int .u64 0, .int .u64 0, .slice none 0 0, .slice none 0 0, .slice none 0 0, .slice none 0 0] 31 (0, 0)) from blk_far (blk_far HY3.out (by show w.heap.size + 1 ≠ w.heap.size; omega) _) (by show w.heap.size + 1 ≠ w.heap.size; omega) _) hb); clear hfx hzx hfy hzy; have hfx := fun i => blk_cell HX5.out i; have hzx := fun i => blk_frozen HX5.out i; have hfy := fun i => blk_cell HY5.out i; have hzy := fun i => blk_frozen HY5.out i; clear hb))
  refine bodyPost_ret (results_ct rfl _ _ (w.heap.size + 1) 31 #[.int .i64 h.f0, .int .u64 h.f1, .int .u64 h.f2, .int .u64 h.f3, .int .u64 h.f4, .slice B0 sp.length d0, .slice B2 sn.length d2, .slice B1 dp.length d1, .slice B3 dn.length d3] (0, 0) _ rfl (nine (HY5.out) _ _ _ _ _ _ _ _ _) Try.underlying31 rfl (by kernel_rfl)) rfl ?_
  exact ⟨_, rfl, GF.mk (h := ⟨h.f0, h.f1, h.f2, h.f3, h.f4, sp, sn, dp, dn⟩) ((HF0.out.step (HK3.out.trans (nine_ka HK5.out (by omega) _ _ _ _ _ _ _ _ _))).lower (by omega)) ((HF2.out.step (nine_ka HK5.out (by omega) _ _ _ _ _ _ _ _ _)).lower (by omega)) ((HF1.out.step (HK3.out.trans (nine_ka HK5.out (by omega) _ _ _ _ _ _ _ _ _))).lower (by omega)) ((HF3.out.step (nine_ka HK5.out (by omega) _ _ _ _ _ _ _ _ _)).lower (by omega)), nine_below HB5.out (by omega) _ _ _ _ _ _ _ _ _⟩
theorem fmake_c (h : Fh) (hw : wfF h) (p n : List Pu) (hp : wfRowU p) (hn : wfRowU n) (w : World) (v vp vn : Value) (hv : GI w v h) (hvp : SI kPu w vp p) (hvn : SI kPu w vn n) : Calls Try.prog 88 #[v, vp, vn] w fun e w' =>
    ∃ v', e = .returned (.tuple #[v', .int .i64 (makeF h p n).2]) ∧ GF w.heap.size w' v' (makeF h p n).1 ∧ Below w.heap.size w w' := fmake_n h p n (madeF_wf hw hp hn) hp hn w v vp vn hv hvp hvn
end Go.Proofs.Ytfbjjbbhnmoolaa.P
namespace Go.Proofs.Ytfbjjbbhnmoolaa.P
open Go.RowKit Go.Shelf Go.Proofs.YtfbjjbbhnmoolaaW.PrintWords Go.Proofs.YtfbjjbbhnmoolaaW.PrintLast Go.Proofs.YtfbjjbbhnmoolaaW.PrintMore
def canonF (h : Fh) : Fh × Int := if checkF h ≠ 0 then (emptyF, checkF h) else makeF h (some0U (openF h).1) (some0U (openF h).2.1)
set_option maxHeartbeats 8000000 in
set_option maxRecDepth 100000 in
theorem fcanon_c (h : Fh) (hw : wfF h) (w : World) (v : Value) (hv : GI w v h) : Calls Try.prog 86 #[v] w fun e w' =>
    ∃ v', e = .returned (.tuple #[v', .int .i64 (canonF h).2]) ∧ GF w.heap.size w' v' (canonF h).1 ∧ Below w.heap.size w w' := by
  have hu := Try.underlying31
  obtain ⟨A5, c5, A6, c6, A7, c7, A8, c8, e, -⟩ := hv.open_
  subst e
  have HV := Aside0.mk hv
  have ho := fopen_c h hw
  unfold canonF checkF
  have hwp : wfRowU (openF h).1 := (openF_row hw).1.wf
  have hwn : wfRowU (openF h).2.1 := (openF_row hw).2.wf
  have hm := fun w v vp vn => fmake_c h hw _ _ (some0U_wf hwp) (some0U_wf hwn) w v vp vn
  have h1 := withoutU_c (openF h).1 (by have := hwp.2; omega)
  have h2 := withoutU_c (openF h).2.1 (by have := hwn.2; omega)
  generalize makeF h (some0U (openF h).1) (some0U (openF h).2.1) = mr at *
  generalize openF h = o at *
  obtain ⟨p, n, ec⟩ := o
  obtain ⟨mh, me⟩ := mr
  simp only at hm h1 h2 ho ⊢
  have HO := Aside0.mk ho
  have HM := Aside0.mk hm
  have H1 := Aside0.mk h1
  have H2 := Aside0.mk h2
  clear ho hm h1 h2 hwp hwn hw hv
  by_cases c1 : ec = 0
  rotate_left
  · rw [if_pos c1]
    have c1a : (ec != 0) = true := bne_iff_ne.2 c1
    clear c1
    go_enter Try.func86, Try.ntmps86
    go_wp2_with (first | (go_at_call 101; (with_reducible refine (HO.out _ _ (HV.out.below (below_alloc (below_alloc (Below.refl _ _) _) _))).mono ?_); rintro e w1 ⟨v0, v1, rfl, h0, h1, hb⟩; have HO := Aside0.mk (And.intro h0 h1); have HB := Aside0.mk (below_then (below_alloc (below_alloc (Below.refl w.heap.size w) (.cells #[.int .i64 h.f0, .int .u64 h.f1, .int .u64 h.f2, .int .u64 h.f3, .int .u64 h.f4, .slice A5 h.f5.length c5, .slice A6 h.f6.length c6, .slice A7 h.f7.length c7, .slice A8 h.f8.length c8] 31)) (.cells #[.int .i64 0, .int .u64 0, .int .u64 0, .int .u64 0, .int .u64 0, .slice none 0 0, .slice none 0 0, .slice none 0 0, .slice none 0 0] 31)) (by simp; omega) hb); have HX1 := Aside0.mk (blk_below (blk_alloc (blk_new w (.cells #[.int .i64 h.f0, .int .u64 h.f1, .int .u64 h.f2, .int .u64 h.f3, .int .u64 h.f4, .slice A5 h.f5.length c5, .slice A6 h.f6.length c6, .slice A7 h.f7.length c7, .slice A8 h.f8.length c8] 31)) (.cells #[.int .i64 0, .int .u64 0, .int .u64 0, .int .u64 0, .int .u64 0, .slice none 0 0, .slice none 0 0, .slice none 0 0, .slice none 0 0] 31)) hb); have HY1 := Aside0.mk (show w1.heap[w.heap.size + 1]? = some (.cells #[.int .i64 0, .int .u64 0, .int .u64 0, .int .u64 0, .int .u64 0, .slice none 0 0, .slice none 0 0, .slice none 0 0, .slice none 0 0] 31 (0, 0)) from (blk_below (show ((w.alloc (.cells #[.int .i64 h.f0, .int .u64 h.f1, .int .u64 h.f2, .int .u64 h.f3, .int .u64 h.f4, .slice A5 h.f5.length c5, .slice A6 h.f6.length c6, .slice A7 h.f7.length c7, .slice A8 h.f8.length c8] 31)).alloc (.cells #[.int .i64 0, .int .u64 0, .int .u64 0, .int .u64 0, .int .u64 0, .slice none 0 0, .slice none 0 0, .slice none 0 0, .slice none 0 0] 31)).heap[w.heap.size + 1]? = _ by simpa using blk_new (w.alloc (.cells #[.int .i64 h.f0, .int .u64 h.f1, .int .u64 h.f2, .int .u64 h.f3, .int .u64 h.f4, .slice A5 h.f5.length c5, .slice A6 h.f6.length c6, .slice A7 h.f7.length c7, .slice A8 h.f8.length c8] 31)) (.cells #[.int .i64 0, .int .u64 0, .int .u64 0, .int .u64 0, .int .u64 0, .slice none 0 0, .slice none 0 0, .slice none 0 0, .slice none 0 0] 31)) hb)); have hfx := fun i => blk_cell HX1.out i; have hzx := fun i => blk_frozen HX1.out i; have hfy := fun i => blk_cell HY1.out i; have hzy := fun i => blk_frozen HY1.out i; clear h0 h1 hb))
    refine bodyPost_ret (results_ct rfl _ _ (w.heap.size + 1) 31 #[.int .i64 0, .int .u64 0, .int .u64 0, .int .u64 0, .int .u64 0, .slice none 0 0, .slice none 0 0, .slice none 0 0, .slice none 0 0] (0, 0) _ rfl (nine HY1.out _ _ _ _ _ _ _ _ _) Try.underlying31 rfl (by kernel_rfl)) rfl ?_
    exact ⟨_, rfl, GF.empty _ _, nine_below HB.out (by omega) _ _ _ _ _ _ _ _ _⟩
  subst c1
  rw [if_neg (by simp)]
  go_enter Try.func86, Try.ntmps86
  go_wp2_with (first | (go_at_call 101; (with_reducible refine (HO.out _ _ (HV.out.below (below_alloc (below_alloc (Below.refl _ _) _) _))).mono ?_); rintro e w1 ⟨v0, v1, rfl, h0, h1, hb⟩; have HO := Aside0.mk (And.intro h0 h1); have HB := Aside0.mk (below_then (below_alloc (below_alloc (Below.refl w.heap.size w) (.cells #[.int .i64 h.f0, .int .u64 h.f1, .int .u64 h.f2, .int .u64 h.f3, .int .u64 h.f4, .slice A5 h.f5.length c5, .slice A6 h.f6.length c6, .slice A7 h.f7.length c7, .slice A8 h.f8.length c8] 31)) (.cells #[.int .i64 0, .int .u64 0, .int .u64 0, .int .u64 0, .int .u64 0, .slice none 0 0, .slice none 0 0, .slice none 0 0, .slice none 0 0] 31)) (by simp; omega) hb); have HX1 := Aside0.mk (blk_below (blk_alloc (blk_new w (.cells #[.int .i64 h.f0, .int .u64 h.f1, .int .u64 h.f2, .int .u64 h.f3, .int .u64 h.f4, .slice A5 h.f5.length c5, .slice A6 h.f6.length c6, .slice A7 h.f7.length c7, .slice A8 h.f8.length c8] 31)) (.cells #[.int .i64 0, .int .u64 0, .int .u64 0, .int .u64 0, .int .u64 0, .slice none 0 0, .slice none 0 0, .slice none 0 0, .slice none 0 0] 31)) hb); have HY1 := Aside0.mk (show w1.heap[w.heap.size + 1]? = some (.cells #[.int .i64 0, .int .u64 0, .int .u64 0, .int .u64 0, .int .u64 0, .slice none 0 0, .slice none 0 0, .slice none 0 0, .slice none 0 0] 31 (0, 0)) from (blk_below (show ((w.alloc (.cells #[.int .i64 h.f0, .int .u64 h.f1, .int .u64 h.f2, .int .u64 h.f3, .int .u64 h.f4, .slice A5 h.f5.length c5, .slice A6 h.f6.length c6, .slice A7 h.f7.length c7, .slice A8 h.f8.length c8] 31)).alloc (.cells #[.int .i64 0, .int .u64 0, .int .u64 0, .int .u64 0, .int .u64 0, .slice none 0 0, .slice none 0 0, .slice none 0 0, .slice none 0 0] 31)).heap[w.heap.size + 1]? = _ by simpa using blk_new (w.alloc (.cells #[.int .i64 h.f0, .int .u64 h.f1, .int .u64 h.f2, .int .u64 h.f3, .int .u64 h.f4, .slice A5 h.f5.length c5, .slice A6 h.f6.length c6, .slice A7 h.f7.length c7, .slice A8 h.f8.length c8] 31)) (.cells #[.int .i64 0, .int .u64 0, .int .u64 0, .int .u64 0, .int .u64 0, .slice none 0 0, .slice none 0 0, .slice none 0 0, .slice none 0 0] 31)) hb)); have hfx := fun i => blk_cell HX1.out i; have hzx := fun i => blk_frozen HX1.out i; have hfy := fun i => blk_cell HY1.out i; have hzy := fun i => blk_frozen HY1.out i; clear h0 h1 hb))
  go_region_with (first | (go_at_call 114; (with_reducible refine (H1.out _ v0 (HO.out.1.below (below_drew (Below.refl _ _)))).mono ?_); rintro e w2 ⟨vp, rfl, hs, hb⟩; have HS2 := Aside0.mk hs; have HB2 := Aside0.mk (below_then (below_drew (Below.refl w1.heap.size w1)) (Nat.le_refl _) hb); have hX2 := fun i => blk_cell (blk_below HX1.out HB2.out) i; have hY2 := fun i => blk_cell (blk_below HY1.out HB2.out) i; have hZ2 := fun i => blk_frozen (blk_below HY1.out HB2.out) i; clear hs hb) | (go_at_call 114; (with_reducible refine (H2.out _ v1 (HO.out.2.below (below_drew (Below.refl _ _)))).mono ?_); rintro e w3 ⟨vn, rfl, hs, hb⟩; have HS3 := Aside0.mk hs; have HB3 := Aside0.mk (below_then (below_drew (Below.refl w1.heap.size w1)) (Nat.le_refl _) hb); have hX3 := fun i => blk_cell (blk_below HX1.out HB3.out) i; have hY3 := fun i => blk_cell (blk_below HY1.out HB3.out) i; have hZ3 := fun i => blk_frozen (blk_below HY1.out HB3.out) i; clear hs hb) | (go_at_call 114; (with_reducible refine (H2.out w2 v1 (HO.out.2.below HB2.out)).mono ?_); rintro e w4 ⟨vn, rfl, hs, hb⟩; have HS4 := Aside0.mk (And.intro (HS2.out.below hb) hs); have HB4 := Aside0.mk (below_then HB2.out HB2.out.size hb); have hX4 := fun i => blk_cell (blk_below HX1.out HB4.out) i; have hY4 := fun i => blk_cell (blk_below HY1.out HB4.out) i; have hZ4 := fun i => blk_frozen (blk_below HY1.out HB4.out) i; clear hs hb) | (go_at_call 114; (with_reducible refine (H1.out w3 v0 (HO.out.1.below HB3.out)).mono ?_); rintro e w4 ⟨vp, rfl, hs, hb⟩; have HS4 := Aside0.mk (And.intro hs (HS3.out.below hb)); have HB4 := Aside0.mk (below_then HB3.out HB3.out.size hb); have hX4 := fun i => blk_cell (blk_below HX1.out HB4.out) i; have hY4 := fun i => blk_cell (blk_below HY1.out HB4.out) i; have hZ4 := fun i => blk_frozen (blk_below HY1.out HB4.out) i; clear hs hb) | (go_at_call 88; (with_reducible refine (HM.out w4 _ vp vn (HV.out.below (below_then HB.out HB.out.size HB4.out)) HS4.out.1 HS4.out.2).mono ?_); rintro e w5 ⟨v5, rfl, hs, hb⟩; have HB5 := Aside0.mk (below_then (below_then HB.out HB.out.size HB4.out) (below_then HB.out HB.out.size HB4.out).size hb); have HI5 := Aside0.mk hs; obtain ⟨D5, g5, D6, g6, D7, g7, D8, g8, e5⟩ := hs.open_; subst e5; have hX5 := fun i => blk_cell (blk_below (blk_below HX1.out HB4.out) hb) i; have HY5 := Aside0.mk (blk_below (blk_below HY1.out HB4.out) hb); have hY5 := fun i => blk_cell HY5.out i; have hZ5 := fun i => blk_frozen HY5.out i; clear hs hb))
  all_goals (go_wp2; have hsz := blk_lt HY1.out; have hsz4 := HB4.out.size; refine bodyPost_ret (results_ct rfl _ _ (w.heap.size + 1) 31 #[.int .i64 mh.f0, .int .u64 mh.f1, .int .u64 mh.f2, .int .u64 mh.f3, .int .u64 mh.f4, .slice D5 mh.f5.length g5, .slice D6 mh.f6.length g6, .slice D7 mh.f7.length g7, .slice D8 mh.f8.length g8] (0, 0) _ rfl (nine HY5.out _ _ _ _ _ _ _ _ _) Try.underlying31 rfl (by kernel_rfl)) rfl ?_; exact ⟨_, rfl, (HI5.out.step (nine_ka (KA.refl _ _) (by omega) _ _ _ _ _ _ _ _ _)).lower (by omega), nine_below HB5.out (by omega) _ _ _ _ _ _ _ _ _⟩)
end Go.Proofs.Ytfbjjbbhnmoolaa.P
namespace Go.Proofs.Ytfbjjbbhnmoolaa.P
open Go.RowKit Go.Shelf Go.Proofs.YtfbjjbbhnmoolaaW.PrintWords Go.Proofs.YtfbjjbbhnmoolaaW.PrintLast Go.Proofs.YtfbjjbbhnmoolaaW.PrintMore
def sameNumsF (a b : Fh) : Prop := a.f0 = b.f0 ∧ a.f1 = b.f1 ∧ a.f2 = b.f2 ∧ a.f3 = b.f3 ∧ a.f4 = b.f4
instance (a b : Fh) : Decidable (sameNumsF a b) := by unfold sameNumsF; exact inferInstance
def equalF (a b : Fh) : Bool := decide (sameNumsF a b) && (decide (checkF a = 0) && decide (checkF b = 0) && (decide (some0U (openF a).1 = some0U (openF b).1) && decide (some0U (openF a).2.1 = some0U (openF b).2.1)))
end Go.Proofs.Ytfbjjbbhnmoolaa.P
